/- What Go functions come to, as Lean functions: each with its contract. -/
import Derived.Test.YtmdccbecmilljaaGreatVd
import Derived.Test.YtmdccbecmilljaaGreatProg

set_option linter.unusedVariables false
set_option linter.unusedSimpArgs false
namespace Go.Vm
open Go Go.RowKit

theorem en_k39 : Enters Go.Proofs.Tryz.prog 113 := ⟨_, Go.Proofs.Tryz.func113, rfl, rfl⟩
def ty_k39 : List (Nat × TI) := [(36, { size := 1, bytes := 24, agg := false, zero := [.sl []], kind := .slice 42 }), (3, { size := 1, bytes := 8, agg := false, zero := [.sc (.int .i64 0)], kind := .int .i64 }), (42, { size := 6, bytes := 56, agg := true, zero := [.sc (.int .i64 0), .sc (.int .i64 0), .sc (.int .i64 0), .sc (.int .i64 0), .sc (.int .i64 0), .sc (.string "".toByteArray)], kind := .struct [(0, 1, false), (1, 1, false), (2, 1, false), (3, 1, false), (4, 1, false), (5, 1, false)] })]
noncomputable def C_k39 : Cfg := mkC ty_k39 [] [] [] [] [0,1,6,7] [] []
theorem E_k39 : Env1 Go.Proofs.Tryz.prog C_k39 := mkC_ok (by kernel_rfl) trivial (by kernel_rfl)
theorem C_k39_ty : (C_k39).ty = ty_k39 := rfl
theorem C_k39_eqs : (C_k39).eqs = [] := rfl
theorem C_k39_call : (C_k39).call = fun f => (([] : List (Nat × (List DA → Option (List RV)))).lookup f).getD fun _ => none := rfl
theorem C_k39_calls : (C_k39).calls = [] := rfl
theorem C_k39_scal : (C_k39).scal = [] := rfl
theorem C_k39_owns : (C_k39).owns = [] := rfl
theorem C_k39_vars : (C_k39).vars = [0,1,6,7] := rfl
theorem C_k39_ores : (C_k39).ores = [] := rfl
theorem C_k39_flags : (C_k39).flags = [] := rfl
theorem C_k39_pins : (C_k39).pins = [] := rfl
theorem C_k39_inls : (C_k39).inls = [] := rfl
structure L_k39_0 where
  l : List Tx
  n : Int
  pos : Int
  behind : Int
def an_k39_0 : Ann := mkAnn (σ := L_k39_0) (lCons (vOne (cSl ceTx)) <| lCons (vOne cI) <| lSkip vUnk <| lSkip vUnk <| lSkip vUnk <| lSkip vUnk <| lCons (vOne cI) <| lCons (vOne cI) <| lSkip vUnk <| lSkip vUnk <| lSkip vUnk <| lSkip vUnk <| lSkip vUnk <| lSkip vUnk <| lSkip vUnk <| lSkip vUnk <| lSkip vUnk <| lSkip vUnk <| lSkip vUnk <| lSkip vUnk <| lSkip vUnk <| lSkip vUnk <| lSkip vUnk <| lSkip vUnk <| lSkip vUnk <| lSkip vUnk <| lSkip vUnk <| lSkip vUnk <| lSkip vUnk <| lSkip vUnk <| lSkip vUnk <| lSkip vUnk <| lSkip vUnk <| lSkip vUnk <| lSkip vUnk <| lSkip vUnk <| lSkip vUnk <| lSkip vUnk <| lSkip vUnk <|  lNil) ( lNil)
  (fun a b => L_k39_0.mk (a.1) (a.2.1) (a.2.2.1) (a.2.2.2.1)) (fun s => (s.l, s.n, s.pos, s.behind, ())) (fun s => (())) (fun a b => true) (fun _ _ _ => ⟨rfl, rfl⟩)
set_option maxRecDepth 100000 in
theorem an_k39_0_st (s : an_k39_0.σ) : an_k39_0.st s = (toL 39 (.node (.node (.node (.node (.node (.node (.node (.node (.leaf (.v (.one (.d (.sl ((L_k39_0.l s).map Tx.c)))))) (.leaf (.v (.one (.d (.sc (.int .i64 (L_k39_0.n s)))))))) (.leaf (.unk))) (.node (.leaf (.unk)) (.node (.leaf (.v (.one (.d (.sc (.int .i64 (L_k39_0.pos s))))))) (.leaf (.v (.one (.d (.sc (.int .i64 (L_k39_0.behind s)))))))))) (.leaf (.unk))) (.leaf (.unk))) (.leaf (.unk))) (.leaf (.unk))) (.leaf (.unk))), []) := rfl
set_option maxHeartbeats 4000000 in
set_option maxRecDepth 100000 in
theorem an_k39_0_un {β : Type} (p_l : List (List DV)) (n : Int) (pos : Int) (behind : Int) (f_ : an_k39_0.σ → Option β) : (an_k39_0.un [.v (.one (.d (.sl p_l))), .v (.one (.d (.sc (.int .i64 n)))), .unk, .unk, .unk, .unk, .v (.one (.d (.sc (.int .i64 pos)))), .v (.one (.d (.sc (.int .i64 behind)))), .unk, .unk, .unk, .unk, .unk, .unk, .unk, .unk, .unk, .unk, .unk, .unk, .unk, .unk, .unk, .unk, .unk, .unk, .unk, .unk, .unk, .unk, .unk, .unk, .unk, .unk, .unk, .unk, .unk, .unk, .unk] []).bind f_ = (decL dTx p_l).bind fun l => f_ (L_k39_0.mk l n pos behind) :=
  (mkAnn_un (σ := L_k39_0) _ _ _ _ _ _ _ _ _ f_).trans (by simp (maxSteps := 10000000) [Option.bind_assoc])
def T_k39 : List (Nat × LoopA) := []
set_option maxHeartbeats 20000000 in
set_option maxRecDepth 100000 in
noncomputable def pk_k39 : { F : (List Tx) → Int → Option (Int × Bool) // CallC Go.Proofs.Tryz.prog 113 (con2 (eL ceTx) eInt (fun x0 x1 => (F x0 x1).map (res2 rI rB).enc)) } :=
  ⟨_, cc2 E_k39 Go.Proofs.Tryz.func113 rfl rfl (T := T_k39) (G := [⟨0, 0, an_k39_0⟩]) (r := (res2 rI rB)) fun x0 x1 => by
    unfold Wf
    simp (maxSteps := 10000000) (implicitDefEqProofs := false) [-env0, -envI, env0_tree, envI_tree, -evOps, -evOne, -evOp, -evIndexAddr, -evIndex, -evPick, -binV, -evLoad, -evStore, -loadC, -callV, -nilC, -storeC, -toDVs, -toDAs, -resRs, List.lookup, List.replicate, List.range_succ, ty_k39, C_k39_ty, C_k39_eqs, C_k39_call, C_k39_calls, C_k39_scal, C_k39_owns, C_k39_vars, C_k39_ores, C_k39_flags, C_k39_pins, C_k39_inls, T_k39, Go.Proofs.Tryz.f113, an_k39_0_st, an_k39_0_un, iC, uC, bC, sC, Tx.c, splitL, findLabel]
    try rfl⟩
noncomputable def F_k39 : (List Tx) → Int → Option (Int × Bool) := pk_k39.1
noncomputable def M_k39 : List DA → Option (List RV) := con2 (eL ceTx) eInt (fun x0 x1 => (F_k39 x0 x1).map (res2 rI rB).enc)
theorem cc_k39 : CallC Go.Proofs.Tryz.prog 113 M_k39 := pk_k39.2
theorem en_k49 : Enters Go.Proofs.Tryz.prog 54 := ⟨_, Go.Proofs.Tryz.func54, rfl, rfl⟩
def ty_k49 : List (Nat × TI) := [(42, { size := 6, bytes := 56, agg := true, zero := [.sc (.int .i64 0), .sc (.int .i64 0), .sc (.int .i64 0), .sc (.int .i64 0), .sc (.int .i64 0), .sc (.string "".toByteArray)], kind := .struct [(0, 1, false), (1, 1, false), (2, 1, false), (3, 1, false), (4, 1, false), (5, 1, false)] }), (9, { size := 1, bytes := 16, agg := false, zero := [.sc (.string "".toByteArray)], kind := .str }), (3, { size := 1, bytes := 8, agg := false, zero := [.sc (.int .i64 0)], kind := .int .i64 })]
noncomputable def C_k49 : Cfg := mkC ty_k49 [] [] [] [] [] [] []
theorem E_k49 : Env1 Go.Proofs.Tryz.prog C_k49 := mkC_ok (by kernel_rfl) trivial (by kernel_rfl)
theorem C_k49_ty : (C_k49).ty = ty_k49 := rfl
theorem C_k49_eqs : (C_k49).eqs = [] := rfl
theorem C_k49_call : (C_k49).call = fun f => (([] : List (Nat × (List DA → Option (List RV)))).lookup f).getD fun _ => none := rfl
theorem C_k49_calls : (C_k49).calls = [] := rfl
theorem C_k49_scal : (C_k49).scal = [] := rfl
theorem C_k49_owns : (C_k49).owns = [] := rfl
theorem C_k49_vars : (C_k49).vars = [] := rfl
theorem C_k49_ores : (C_k49).ores = [] := rfl
theorem C_k49_flags : (C_k49).flags = [] := rfl
theorem C_k49_pins : (C_k49).pins = [] := rfl
theorem C_k49_inls : (C_k49).inls = [] := rfl
def T_k49 : List (Nat × LoopA) := []
set_option maxHeartbeats 20000000 in
set_option maxRecDepth 100000 in
noncomputable def pk_k49 : { F : Tx → Option (Bool) // CallC Go.Proofs.Tryz.prog 54 (con1 (eT ceTx) (fun x0 => (F x0).map (res1 rB).enc)) } :=
  ⟨_, cc1 E_k49 Go.Proofs.Tryz.func54 rfl rfl (T := T_k49) (G := []) (r := (res1 rB)) fun x0 => by
    unfold Wf
    simp (maxSteps := 10000000) (implicitDefEqProofs := false) [-env0, -envI, env0_tree, envI_tree, -evOps, -evOne, -evOp, -evIndexAddr, -evIndex, -evPick, -binV, -evLoad, -evStore, -loadC, -callV, -nilC, -storeC, -toDVs, -toDAs, -resRs, List.lookup, List.replicate, List.range_succ, ty_k49, C_k49_ty, C_k49_eqs, C_k49_call, C_k49_calls, C_k49_scal, C_k49_owns, C_k49_vars, C_k49_ores, C_k49_flags, C_k49_pins, C_k49_inls, T_k49, Go.Proofs.Tryz.f54, iC, uC, bC, sC, Tx.c]
    try rfl⟩
noncomputable def F_k49 : Tx → Option (Bool) := pk_k49.1
noncomputable def M_k49 : List DA → Option (List RV) := con1 (eT ceTx) (fun x0 => (F_k49 x0).map (res1 rB).enc)
theorem cc_k49 : CallC Go.Proofs.Tryz.prog 54 M_k49 := pk_k49.2
theorem en_k47 : Enters Go.Proofs.Tryz.prog 33 := ⟨_, Go.Proofs.Tryz.func33, rfl, rfl⟩
def ty_k47 : List (Nat × TI) := [(36, { size := 1, bytes := 24, agg := false, zero := [.sl []], kind := .slice 42 }), (3, { size := 1, bytes := 8, agg := false, zero := [.sc (.int .i64 0)], kind := .int .i64 }), (42, { size := 6, bytes := 56, agg := true, zero := [.sc (.int .i64 0), .sc (.int .i64 0), .sc (.int .i64 0), .sc (.int .i64 0), .sc (.int .i64 0), .sc (.string "".toByteArray)], kind := .struct [(0, 1, false), (1, 1, false), (2, 1, false), (3, 1, false), (4, 1, false), (5, 1, false)] })]
noncomputable def C_k47 : Cfg := mkC ty_k47 [] [(54, M_k49)] [54] [] [0,1,5] [] []
theorem E_k47 : Env1 Go.Proofs.Tryz.prog C_k47 := mkC_ok (by kernel_rfl) (⟨⟨en_k49, cc_k49⟩, trivial⟩) (by kernel_rfl)
theorem C_k47_ty : (C_k47).ty = ty_k47 := rfl
theorem C_k47_eqs : (C_k47).eqs = [] := rfl
theorem C_k47_call : (C_k47).call = fun f => (([(54, M_k49)] : List (Nat × (List DA → Option (List RV)))).lookup f).getD fun _ => none := rfl
theorem C_k47_calls : (C_k47).calls = [54] := rfl
theorem C_k47_scal : (C_k47).scal = [54] := rfl
theorem C_k47_owns : (C_k47).owns = [] := rfl
theorem C_k47_vars : (C_k47).vars = [0,1,5] := rfl
theorem C_k47_ores : (C_k47).ores = [] := rfl
theorem C_k47_flags : (C_k47).flags = [] := rfl
theorem C_k47_pins : (C_k47).pins = [] := rfl
theorem C_k47_inls : (C_k47).inls = [] := rfl
structure L_k47_0 where
  l : List Tx
  most : Int
  i : Int
def an_k47_0 : Ann := mkAnn (σ := L_k47_0) (lCons (vOne (cSl ceTx)) <| lCons (vOne cI) <| lSkip vUnk <| lSkip vUnk <| lSkip vUnk <| lCons (vOne cI) <| lSkip vUnk <| lSkip vUnk <| lSkip vUnk <| lSkip vUnk <| lSkip vUnk <| lSkip vUnk <| lSkip vUnk <| lSkip vUnk <| lSkip vUnk <| lSkip vUnk <| lSkip vUnk <| lSkip vUnk <| lSkip vUnk <| lSkip vUnk <| lSkip vUnk <| lSkip vUnk <|  lNil) ( lNil)
  (fun a b => L_k47_0.mk (a.1) (a.2.1) (a.2.2.1)) (fun s => (s.l, s.most, s.i, ())) (fun s => (())) (fun a b => true) (fun _ _ _ => ⟨rfl, rfl⟩)
set_option maxRecDepth 100000 in
theorem an_k47_0_st (s : an_k47_0.σ) : an_k47_0.st s = (toL 22 (.node (.node (.node (.node (.node (.node (.node (.node (.leaf (.v (.one (.d (.sl ((L_k47_0.l s).map Tx.c)))))) (.leaf (.v (.one (.d (.sc (.int .i64 (L_k47_0.most s)))))))) (.leaf (.unk))) (.node (.node (.leaf (.unk)) (.leaf (.v (.one (.d (.sc (.int .i64 (L_k47_0.i s)))))))) (.leaf (.unk)))) (.leaf (.unk))) (.leaf (.unk))) (.leaf (.unk))) (.leaf (.unk))) (.leaf (.unk))), []) := rfl
set_option maxHeartbeats 4000000 in
set_option maxRecDepth 100000 in
theorem an_k47_0_un {β : Type} (p_l : List (List DV)) (most : Int) (i : Int) (f_ : an_k47_0.σ → Option β) : (an_k47_0.un [.v (.one (.d (.sl p_l))), .v (.one (.d (.sc (.int .i64 most)))), .unk, .unk, .unk, .v (.one (.d (.sc (.int .i64 i)))), .unk, .unk, .unk, .unk, .unk, .unk, .unk, .unk, .unk, .unk, .unk, .unk, .unk, .unk, .unk, .unk] []).bind f_ = (decL dTx p_l).bind fun l => f_ (L_k47_0.mk l most i) :=
  (mkAnn_un (σ := L_k47_0) _ _ _ _ _ _ _ _ _ f_).trans (by simp (maxSteps := 10000000) [Option.bind_assoc])
def T_k47 : List (Nat × LoopA) := [(0, .ty an_k47_0)]
set_option maxHeartbeats 20000000 in
set_option maxRecDepth 100000 in
noncomputable def pk_k47 : { F : (List Tx) → Int → Option (Bool) // CallC Go.Proofs.Tryz.prog 33 (con2 (eL ceTx) eInt (fun x0 x1 => (F x0 x1).map (res1 rB).enc)) } :=
  ⟨_, cc2 E_k47 Go.Proofs.Tryz.func33 rfl rfl (T := T_k47) (G := []) (r := (res1 rB)) fun x0 x1 => by
    unfold Wf
    simp (maxSteps := 10000000) (implicitDefEqProofs := false) [-env0, -envI, env0_tree, envI_tree, -evOps, -evOne, -evOp, -evIndexAddr, -evIndex, -evPick, -binV, -evLoad, -evStore, -loadC, -callV, -nilC, -storeC, -toDVs, -toDAs, -resRs, List.lookup, List.replicate, List.range_succ, ty_k47, C_k47_ty, C_k47_eqs, C_k47_call, C_k47_calls, C_k47_scal, C_k47_owns, C_k47_vars, C_k47_ores, C_k47_flags, C_k47_pins, C_k47_inls, T_k47, Go.Proofs.Tryz.f33, M_k49, an_k47_0_st, an_k47_0_un, iC, uC, bC, sC, Tx.c]
    try rfl⟩
noncomputable def F_k47 : (List Tx) → Int → Option (Bool) := pk_k47.1
noncomputable def M_k47 : List DA → Option (List RV) := con2 (eL ceTx) eInt (fun x0 x1 => (F_k47 x0 x1).map (res1 rB).enc)
theorem cc_k47 : CallC Go.Proofs.Tryz.prog 33 M_k47 := pk_k47.2
theorem en_k4a : Enters Go.Proofs.Tryz.prog 32 := ⟨_, Go.Proofs.Tryz.func32, rfl, rfl⟩
def ty_k4a : List (Nat × TI) := [(36, { size := 1, bytes := 24, agg := false, zero := [.sl []], kind := .slice 42 }), (3, { size := 1, bytes := 8, agg := false, zero := [.sc (.int .i64 0)], kind := .int .i64 }), (42, { size := 6, bytes := 56, agg := true, zero := [.sc (.int .i64 0), .sc (.int .i64 0), .sc (.int .i64 0), .sc (.int .i64 0), .sc (.int .i64 0), .sc (.string "".toByteArray)], kind := .struct [(0, 1, false), (1, 1, false), (2, 1, false), (3, 1, false), (4, 1, false), (5, 1, false)] })]
noncomputable def C_k4a : Cfg := mkC ty_k4a [(42, [.i .i64, .i .i64, .i .i64, .i .i64, .i .i64, .s])] [] [] [] [0,1,5] [] [(6, [true, true, true, true, true, true, true, true, true])]
theorem E_k4a : Env1 Go.Proofs.Tryz.prog C_k4a := mkC_ok (by kernel_rfl) trivial (by kernel_rfl)
theorem C_k4a_ty : (C_k4a).ty = ty_k4a := rfl
theorem C_k4a_eqs : (C_k4a).eqs = [(42, [.i .i64, .i .i64, .i .i64, .i .i64, .i .i64, .s])] := rfl
theorem C_k4a_call : (C_k4a).call = fun f => (([] : List (Nat × (List DA → Option (List RV)))).lookup f).getD fun _ => none := rfl
theorem C_k4a_calls : (C_k4a).calls = [] := rfl
theorem C_k4a_scal : (C_k4a).scal = [] := rfl
theorem C_k4a_owns : (C_k4a).owns = [] := rfl
theorem C_k4a_vars : (C_k4a).vars = [0,1,5] := rfl
theorem C_k4a_ores : (C_k4a).ores = [] := rfl
theorem C_k4a_flags : (C_k4a).flags = [(6, [true, true, true, true, true, true, true, true, true])] := rfl
theorem C_k4a_pins : (C_k4a).pins = [] := rfl
theorem C_k4a_inls : (C_k4a).inls = [] := rfl
structure L_k4a_0 where
  a_ : List Tx
  b_ : List Tx
  i : Int
def an_k4a_0 : Ann := mkAnn (σ := L_k4a_0) (lCons (vOne (cSl ceTx)) <| lCons (vOne (cSl ceTx)) <| lSkip vUnk <| lSkip vUnk <| lSkip vUnk <| lCons (vOne cI) <| lSkip vUnk <| lSkip vUnk <| lSkip vUnk <| lSkip vUnk <| lSkip vUnk <| lSkip vUnk <| lSkip vUnk <| lSkip vUnk <| lSkip vUnk <| lSkip vUnk <| lSkip vUnk <| lSkip vUnk <| lSkip vUnk <| lSkip vUnk <| lSkip vUnk <| lSkip vUnk <| lSkip vUnk <| lSkip vUnk <| lSkip vUnk <| lSkip vUnk <|  lNil) ( lNil)
  (fun a b => L_k4a_0.mk (a.1) (a.2.1) (a.2.2.1)) (fun s => (s.a_, s.b_, s.i, ())) (fun s => (())) (fun a b => true) (fun _ _ _ => ⟨rfl, rfl⟩)
set_option maxRecDepth 100000 in
theorem an_k4a_0_st (s : an_k4a_0.σ) : an_k4a_0.st s = (toL 26 (.node (.node (.node (.node (.node (.node (.node (.node (.leaf (.v (.one (.d (.sl ((L_k4a_0.a_ s).map Tx.c)))))) (.leaf (.v (.one (.d (.sl ((L_k4a_0.b_ s).map Tx.c))))))) (.leaf (.unk))) (.node (.node (.leaf (.unk)) (.leaf (.v (.one (.d (.sc (.int .i64 (L_k4a_0.i s)))))))) (.leaf (.unk)))) (.leaf (.unk))) (.leaf (.unk))) (.leaf (.unk))) (.leaf (.unk))) (.leaf (.unk))), []) := rfl
set_option maxHeartbeats 4000000 in
set_option maxRecDepth 100000 in
theorem an_k4a_0_un {β : Type} (p_a_ : List (List DV)) (p_b_ : List (List DV)) (i : Int) (f_ : an_k4a_0.σ → Option β) : (an_k4a_0.un [.v (.one (.d (.sl p_a_))), .v (.one (.d (.sl p_b_))), .unk, .unk, .unk, .v (.one (.d (.sc (.int .i64 i)))), .unk, .unk, .unk, .unk, .unk, .unk, .unk, .unk, .unk, .unk, .unk, .unk, .unk, .unk, .unk, .unk, .unk, .unk, .unk, .unk] []).bind f_ = (decL dTx p_a_).bind fun a_ => (decL dTx p_b_).bind fun b_ => f_ (L_k4a_0.mk a_ b_ i) :=
  (mkAnn_un (σ := L_k4a_0) _ _ _ _ _ _ _ _ _ f_).trans (by simp (maxSteps := 10000000) [Option.bind_assoc])
def T_k4a : List (Nat × LoopA) := [(0, .ty an_k4a_0)]
set_option maxHeartbeats 20000000 in
set_option maxRecDepth 100000 in
noncomputable def pk_k4a : { F : (List Tx) → (List Tx) → Option (Bool) // CallC Go.Proofs.Tryz.prog 32 (con2 (eL ceTx) (eL ceTx) (fun x0 x1 => (F x0 x1).map (res1 rB).enc)) } :=
  ⟨_, cc2 E_k4a Go.Proofs.Tryz.func32 rfl rfl (T := T_k4a) (G := []) (r := (res1 rB)) fun x0 x1 => by
    unfold Wf
    simp (maxSteps := 10000000) (implicitDefEqProofs := false) [-env0, -envI, env0_tree, envI_tree, -evOps, -evOne, -evOp, -evIndexAddr, -evIndex, -evPick, -binV, -evLoad, -evStore, -loadC, -callV, -nilC, -storeC, -toDVs, -toDAs, -resRs, List.lookup, List.replicate, List.range_succ, ty_k4a, C_k4a_ty, C_k4a_eqs, C_k4a_call, C_k4a_calls, C_k4a_scal, C_k4a_owns, C_k4a_vars, C_k4a_ores, C_k4a_flags, C_k4a_pins, C_k4a_inls, T_k4a, Go.Proofs.Tryz.f32, an_k4a_0_st, an_k4a_0_un, iC, uC, bC, sC, Tx.c]
    try rfl⟩
noncomputable def F_k4a : (List Tx) → (List Tx) → Option (Bool) := pk_k4a.1
noncomputable def M_k4a : List DA → Option (List RV) := con2 (eL ceTx) (eL ceTx) (fun x0 x1 => (F_k4a x0 x1).map (res1 rB).enc)
theorem cc_k4a : CallC Go.Proofs.Tryz.prog 32 M_k4a := pk_k4a.2
theorem en_k44 : Enters Go.Proofs.Tryz.prog 40 := ⟨_, Go.Proofs.Tryz.func40, rfl, rfl⟩
def ty_k44 : List (Nat × TI) := [(42, { size := 6, bytes := 56, agg := true, zero := [.sc (.int .i64 0), .sc (.int .i64 0), .sc (.int .i64 0), .sc (.int .i64 0), .sc (.int .i64 0), .sc (.string "".toByteArray)], kind := .struct [(0, 1, false), (1, 1, false), (2, 1, false), (3, 1, false), (4, 1, false), (5, 1, false)] }), (3, { size := 1, bytes := 8, agg := false, zero := [.sc (.int .i64 0)], kind := .int .i64 }), (9, { size := 1, bytes := 16, agg := false, zero := [.sc (.string "".toByteArray)], kind := .str })]
noncomputable def C_k44 : Cfg := mkC ty_k44 [] [] [] [] [] [] []
theorem E_k44 : Env1 Go.Proofs.Tryz.prog C_k44 := mkC_ok (by kernel_rfl) trivial (by kernel_rfl)
theorem C_k44_ty : (C_k44).ty = ty_k44 := rfl
theorem C_k44_eqs : (C_k44).eqs = [] := rfl
theorem C_k44_call : (C_k44).call = fun f => (([] : List (Nat × (List DA → Option (List RV)))).lookup f).getD fun _ => none := rfl
theorem C_k44_calls : (C_k44).calls = [] := rfl
theorem C_k44_scal : (C_k44).scal = [] := rfl
theorem C_k44_owns : (C_k44).owns = [] := rfl
theorem C_k44_vars : (C_k44).vars = [] := rfl
theorem C_k44_ores : (C_k44).ores = [] := rfl
theorem C_k44_flags : (C_k44).flags = [] := rfl
theorem C_k44_pins : (C_k44).pins = [] := rfl
theorem C_k44_inls : (C_k44).inls = [] := rfl
def T_k44 : List (Nat × LoopA) := []
set_option maxHeartbeats 20000000 in
set_option maxRecDepth 100000 in
noncomputable def pk_k44 : { F : Tx → Option (Bool) // CallC Go.Proofs.Tryz.prog 40 (con1 (eT ceTx) (fun x0 => (F x0).map (res1 rB).enc)) } :=
  ⟨_, cc1 E_k44 Go.Proofs.Tryz.func40 rfl rfl (T := T_k44) (G := []) (r := (res1 rB)) fun x0 => by
    unfold Wf
    simp (maxSteps := 10000000) (implicitDefEqProofs := false) [-env0, -envI, env0_tree, envI_tree, -evOps, -evOne, -evOp, -evIndexAddr, -evIndex, -evPick, -binV, -evLoad, -evStore, -loadC, -callV, -nilC, -storeC, -toDVs, -toDAs, -resRs, List.lookup, List.replicate, List.range_succ, ty_k44, C_k44_ty, C_k44_eqs, C_k44_call, C_k44_calls, C_k44_scal, C_k44_owns, C_k44_vars, C_k44_ores, C_k44_flags, C_k44_pins, C_k44_inls, T_k44, Go.Proofs.Tryz.f40, iC, uC, bC, sC, Tx.c]
    try rfl⟩
noncomputable def F_k44 : Tx → Option (Bool) := pk_k44.1
noncomputable def M_k44 : List DA → Option (List RV) := con1 (eT ceTx) (fun x0 => (F_k44 x0).map (res1 rB).enc)
theorem cc_k44 : CallC Go.Proofs.Tryz.prog 40 M_k44 := pk_k44.2
theorem en_k51 : Enters Go.Proofs.Tryz.prog 52 := ⟨_, Go.Proofs.Tryz.func52, rfl, rfl⟩
def ty_k51 : List (Nat × TI) := [(38, { size := 3, bytes := 40, agg := true, zero := [.sc (.int .i64 0), .sc (.int .i64 0), .sl []], kind := .struct [(0, 1, false), (1, 1, false), (2, 1, false)] }), (3, { size := 1, bytes := 8, agg := false, zero := [.sc (.int .i64 0)], kind := .int .i64 }), (36, { size := 1, bytes := 24, agg := false, zero := [.sl []], kind := .slice 42 }), (42, { size := 6, bytes := 56, agg := true, zero := [.sc (.int .i64 0), .sc (.int .i64 0), .sc (.int .i64 0), .sc (.int .i64 0), .sc (.int .i64 0), .sc (.string "".toByteArray)], kind := .struct [(0, 1, false), (1, 1, false), (2, 1, false), (3, 1, false), (4, 1, false), (5, 1, false)] })]
noncomputable def C_k51 : Cfg := mkC ty_k51 [] [(32, M_k4a)] [32] [] [] [] []
theorem E_k51 : Env1 Go.Proofs.Tryz.prog C_k51 := mkC_ok (by kernel_rfl) (⟨⟨en_k4a, cc_k4a⟩, trivial⟩) (by kernel_rfl)
theorem C_k51_ty : (C_k51).ty = ty_k51 := rfl
theorem C_k51_eqs : (C_k51).eqs = [] := rfl
theorem C_k51_call : (C_k51).call = fun f => (([(32, M_k4a)] : List (Nat × (List DA → Option (List RV)))).lookup f).getD fun _ => none := rfl
theorem C_k51_calls : (C_k51).calls = [32] := rfl
theorem C_k51_scal : (C_k51).scal = [32] := rfl
theorem C_k51_owns : (C_k51).owns = [] := rfl
theorem C_k51_vars : (C_k51).vars = [] := rfl
theorem C_k51_ores : (C_k51).ores = [] := rfl
theorem C_k51_flags : (C_k51).flags = [] := rfl
theorem C_k51_pins : (C_k51).pins = [] := rfl
theorem C_k51_inls : (C_k51).inls = [] := rfl
def T_k51 : List (Nat × LoopA) := []
set_option maxHeartbeats 20000000 in
set_option maxRecDepth 100000 in
noncomputable def pk_k51 : { F : Acc → Acc → Option (Bool) // CallC Go.Proofs.Tryz.prog 52 (con2 (eT ceAcc) (eT ceAcc) (fun x0 x1 => (F x0 x1).map (res1 rB).enc)) } :=
  ⟨_, cc2 E_k51 Go.Proofs.Tryz.func52 rfl rfl (T := T_k51) (G := []) (r := (res1 rB)) fun x0 x1 => by
    unfold Wf
    simp (maxSteps := 10000000) (implicitDefEqProofs := false) [-env0, -envI, env0_tree, envI_tree, -evOps, -evOne, -evOp, -evIndexAddr, -evIndex, -evPick, -binV, -evLoad, -evStore, -loadC, -callV, -nilC, -storeC, -toDVs, -toDAs, -resRs, List.lookup, List.replicate, List.range_succ, ty_k51, C_k51_ty, C_k51_eqs, C_k51_call, C_k51_calls, C_k51_scal, C_k51_owns, C_k51_vars, C_k51_ores, C_k51_flags, C_k51_pins, C_k51_inls, T_k51, Go.Proofs.Tryz.f52, M_k4a, iC, uC, bC, sC, Acc.c, Tx.c]
    try rfl⟩
noncomputable def F_k51 : Acc → Acc → Option (Bool) := pk_k51.1
noncomputable def M_k51 : List DA → Option (List RV) := con2 (eT ceAcc) (eT ceAcc) (fun x0 x1 => (F_k51 x0 x1).map (res1 rB).enc)
theorem cc_k51 : CallC Go.Proofs.Tryz.prog 52 M_k51 := pk_k51.2

end Go.Vm

/- What Go functions come to, as Lean functions: each with its contract. -/
set_option linter.unusedVariables false
set_option linter.unusedSimpArgs false
namespace Go.Vm
open Go Go.RowKit

theorem en_k4c : Enters Go.Proofs.Tryz.prog 34 := ⟨_, Go.Proofs.Tryz.func34, rfl, rfl⟩
def ty_k4c : List (Nat × TI) := [(38, { size := 3, bytes := 40, agg := true, zero := [.sc (.int .i64 0), .sc (.int .i64 0), .sl []], kind := .struct [(0, 1, false), (1, 1, false), (2, 1, false)] }), (3, { size := 1, bytes := 8, agg := false, zero := [.sc (.int .i64 0)], kind := .int .i64 }), (36, { size := 1, bytes := 24, agg := false, zero := [.sl []], kind := .slice 42 }), (42, { size := 6, bytes := 56, agg := true, zero := [.sc (.int .i64 0), .sc (.int .i64 0), .sc (.int .i64 0), .sc (.int .i64 0), .sc (.int .i64 0), .sc (.string "".toByteArray)], kind := .struct [(0, 1, false), (1, 1, false), (2, 1, false), (3, 1, false), (4, 1, false), (5, 1, false)] })]
noncomputable def C_k4c : Cfg := mkC ty_k4c [] [(40, M_k44)] [40] [] [2,5] [] [(7, [false, false, true, true, true, true, true, true, true, true, true, true, true, true, true, true, true, true, true, true, true, true, true, true, true, true, true, true, true, true, true, true, true])]
theorem E_k4c : Env1 Go.Proofs.Tryz.prog C_k4c := mkC_ok (by kernel_rfl) (⟨⟨en_k44, cc_k44⟩, trivial⟩) (by kernel_rfl)
theorem C_k4c_ty : (C_k4c).ty = ty_k4c := rfl
theorem C_k4c_eqs : (C_k4c).eqs = [] := rfl
theorem C_k4c_call : (C_k4c).call = fun f => (([(40, M_k44)] : List (Nat × (List DA → Option (List RV)))).lookup f).getD fun _ => none := rfl
theorem C_k4c_calls : (C_k4c).calls = [40] := rfl
theorem C_k4c_scal : (C_k4c).scal = [40] := rfl
theorem C_k4c_owns : (C_k4c).owns = [] := rfl
theorem C_k4c_vars : (C_k4c).vars = [2,5] := rfl
theorem C_k4c_ores : (C_k4c).ores = [] := rfl
theorem C_k4c_flags : (C_k4c).flags = [(7, [false, false, true, true, true, true, true, true, true, true, true, true, true, true, true, true, true, true, true, true, true, true, true, true, true, true, true, true, true, true, true, true, true])] := rfl
theorem C_k4c_pins : (C_k4c).pins = [] := rfl
theorem C_k4c_inls : (C_k4c).inls = [] := rfl
structure L_k4c_0 where
  i : Int
  a_ : Acc
def an_k4c_0 : Ann := mkAnn (σ := L_k4c_0) (lSkip vUnk <| lSkip vUnk <| lSkip (vOne (cPtr 0 0 0)) <| lSkip vUnk <| lSkip vUnk <| lCons (vOne cI) <| lSkip vUnk <| lSkip vUnk <| lSkip vUnk <| lSkip vUnk <| lSkip vUnk <| lSkip vUnk <| lSkip vUnk <| lSkip vUnk <| lSkip vUnk <| lSkip vUnk <| lSkip vUnk <| lSkip vUnk <| lSkip vUnk <| lSkip vUnk <| lSkip vUnk <| lSkip vUnk <| lSkip vUnk <| lSkip vUnk <| lSkip vUnk <| lSkip vUnk <| lSkip vUnk <| lSkip vUnk <| lSkip vUnk <| lSkip vUnk <| lSkip vUnk <| lSkip vUnk <| lSkip vUnk <| lSkip vUnk <| lSkip vUnk <| lSkip vUnk <| lSkip vUnk <| lSkip vUnk <| lSkip vUnk <| lSkip vUnk <| lSkip vUnk <| lSkip vUnk <| lSkip vUnk <| lSkip vUnk <| lSkip vUnk <| lSkip vUnk <| lSkip vUnk <| lSkip vUnk <| lSkip vUnk <| lSkip vUnk <| lSkip vUnk <| lSkip vUnk <| lSkip vUnk <| lSkip vUnk <| lSkip vUnk <| lSkip vUnk <| lSkip vUnk <| lSkip vUnk <| lSkip vUnk <| lSkip vUnk <| lSkip vUnk <| lSkip vUnk <| lSkip vUnk <| lSkip vUnk <| lSkip vUnk <| lSkip vUnk <| lSkip vUnk <| lSkip vUnk <| lSkip vUnk <| lSkip vUnk <| lSkip vUnk <| lSkip vUnk <| lSkip vUnk <| lSkip vUnk <| lSkip vUnk <| lSkip vUnk <| lSkip vUnk <| lSkip vUnk <| lSkip vUnk <| lSkip vUnk <| lSkip vUnk <| lSkip vUnk <| lSkip vUnk <| lSkip vUnk <| lSkip vUnk <|  lNil) (lCons (oBox 38 (cStr ceAcc)) <|  lNil)
  (fun a b => L_k4c_0.mk (a.1) (b.1)) (fun s => (s.i, ())) (fun s => (s.a_, ())) (fun a b => true) (fun _ _ _ => ⟨rfl, rfl⟩)
set_option maxRecDepth 100000 in
theorem an_k4c_0_st (s : an_k4c_0.σ) : an_k4c_0.st s = (toL 85 (.node (.node (.node (.node (.node (.node (.node (.leaf (.unk)) (.node (.leaf (.v (.one (.ptr 0 0 0)))) (.leaf (.unk)))) (.node (.node (.leaf (.unk)) (.leaf (.v (.one (.d (.sc (.int .i64 (L_k4c_0.i s)))))))) (.leaf (.unk)))) (.leaf (.unk))) (.leaf (.unk))) (.leaf (.unk))) (.leaf (.unk))) (.leaf (.unk))), [.box 38 (ddv (Acc.c (L_k4c_0.a_ s)))]) := rfl
set_option maxHeartbeats 4000000 in
set_option maxRecDepth 100000 in
theorem an_k4c_0_un {β : Type} (i : Int) (p_a_ : List CV) (f_ : an_k4c_0.σ → Option β) : (an_k4c_0.un [.unk, .unk, .v (.one (.ptr 0 0 0)), .unk, .unk, .v (.one (.d (.sc (.int .i64 i)))), .unk, .unk, .unk, .unk, .unk, .unk, .unk, .unk, .unk, .unk, .unk, .unk, .unk, .unk, .unk, .unk, .unk, .unk, .unk, .unk, .unk, .unk, .unk, .unk, .unk, .unk, .unk, .unk, .unk, .unk, .unk, .unk, .unk, .unk, .unk, .unk, .unk, .unk, .unk, .unk, .unk, .unk, .unk, .unk, .unk, .unk, .unk, .unk, .unk, .unk, .unk, .unk, .unk, .unk, .unk, .unk, .unk, .unk, .unk, .unk, .unk, .unk, .unk, .unk, .unk, .unk, .unk, .unk, .unk, .unk, .unk, .unk, .unk, .unk, .unk, .unk, .unk, .unk, .unk] [.box 38 p_a_]).bind f_ = ((allD p_a_).bind dAcc).bind fun a_ => f_ (L_k4c_0.mk i a_) :=
  (mkAnn_un (σ := L_k4c_0) _ _ _ _ _ _ _ _ _ f_).trans (by simp (maxSteps := 10000000) [Option.bind_assoc])
def T_k4c : List (Nat × LoopA) := [(0, .ty an_k4c_0)]
set_option maxHeartbeats 20000000 in
set_option maxRecDepth 100000 in
noncomputable def pk_k4c : { F : Acc → Int → Option (Bool) // CallC Go.Proofs.Tryz.prog 34 (con2 (eT ceAcc) eInt (fun x0 x1 => (F x0 x1).map (res1 rB).enc)) } :=
  ⟨_, cc2 E_k4c Go.Proofs.Tryz.func34 rfl rfl (T := T_k4c) (G := []) (r := (res1 rB)) fun x0 x1 => by
    unfold Wf
    simp (maxSteps := 10000000) (implicitDefEqProofs := false) [-env0, -envI, env0_tree, envI_tree, -evOps, -evOne, -evOp, -evIndexAddr, -evIndex, -evPick, -binV, -evLoad, -evStore, -loadC, -callV, -nilC, -storeC, -toDVs, -toDAs, -resRs, List.lookup, List.replicate, List.range_succ, ty_k4c, C_k4c_ty, C_k4c_eqs, C_k4c_call, C_k4c_calls, C_k4c_scal, C_k4c_owns, C_k4c_vars, C_k4c_ores, C_k4c_flags, C_k4c_pins, C_k4c_inls, T_k4c, Go.Proofs.Tryz.f34, M_k44, an_k4c_0_st, an_k4c_0_un, iC, uC, bC, sC, Acc.c, Tx.c]
    try rfl⟩
noncomputable def F_k4c : Acc → Int → Option (Bool) := pk_k4c.1
noncomputable def M_k4c : List DA → Option (List RV) := con2 (eT ceAcc) eInt (fun x0 x1 => (F_k4c x0 x1).map (res1 rB).enc)
theorem cc_k4c : CallC Go.Proofs.Tryz.prog 34 M_k4c := pk_k4c.2
theorem en_k42 : Enters Go.Proofs.Tryz.prog 42 := ⟨_, Go.Proofs.Tryz.func42, rfl, rfl⟩
def ty_k42 : List (Nat × TI) := [(9, { size := 1, bytes := 16, agg := false, zero := [.sc (.string "".toByteArray)], kind := .str }), (3, { size := 1, bytes := 8, agg := false, zero := [.sc (.int .i64 0)], kind := .int .i64 }), (5, { size := 1, bytes := 1, agg := false, zero := [.sc (.int .u8 0)], kind := .int .u8 }), (114, { size := 1, bytes := 24, agg := false, zero := [.sl []], kind := .slice 5 })]
noncomputable def C_k42 : Cfg := mkC ty_k42 [] [] [] [] [] [] []
theorem E_k42 : Env1 Go.Proofs.Tryz.prog C_k42 := mkC_ok (by kernel_rfl) trivial (by kernel_rfl)
theorem C_k42_ty : (C_k42).ty = ty_k42 := rfl
theorem C_k42_eqs : (C_k42).eqs = [] := rfl
theorem C_k42_call : (C_k42).call = fun f => (([] : List (Nat × (List DA → Option (List RV)))).lookup f).getD fun _ => none := rfl
theorem C_k42_calls : (C_k42).calls = [] := rfl
theorem C_k42_scal : (C_k42).scal = [] := rfl
theorem C_k42_owns : (C_k42).owns = [] := rfl
theorem C_k42_vars : (C_k42).vars = [] := rfl
theorem C_k42_ores : (C_k42).ores = [] := rfl
theorem C_k42_flags : (C_k42).flags = [] := rfl
theorem C_k42_pins : (C_k42).pins = [] := rfl
theorem C_k42_inls : (C_k42).inls = [] := rfl
def T_k42 : List (Nat × LoopA) := []
set_option maxHeartbeats 20000000 in
set_option maxRecDepth 100000 in
noncomputable def pk_k42 : { F : ByteArray → Option (ByteArray) // CallC Go.Proofs.Tryz.prog 42 (con1 eStr (fun x0 => (F x0).map (res1 rS).enc)) } :=
  ⟨_, cc1 E_k42 Go.Proofs.Tryz.func42 rfl rfl (T := T_k42) (G := []) (r := (res1 rS)) fun x0 => by
    unfold Wf
    simp (maxSteps := 10000000) (implicitDefEqProofs := false) [-env0, -envI, env0_tree, envI_tree, -evOps, -evOne, -evOp, -evIndexAddr, -evIndex, -evPick, -binV, -evLoad, -evStore, -loadC, -callV, -nilC, -storeC, -toDVs, -toDAs, -resRs, List.lookup, List.replicate, List.range_succ, ty_k42, C_k42_ty, C_k42_eqs, C_k42_call, C_k42_calls, C_k42_scal, C_k42_owns, C_k42_vars, C_k42_ores, C_k42_flags, C_k42_pins, C_k42_inls, T_k42, Go.Proofs.Tryz.f42, iC, uC, bC, sC]
    try rfl⟩
noncomputable def F_k42 : ByteArray → Option (ByteArray) := pk_k42.1
noncomputable def M_k42 : List DA → Option (List RV) := con1 eStr (fun x0 => (F_k42 x0).map (res1 rS).enc)
theorem cc_k42 : CallC Go.Proofs.Tryz.prog 42 M_k42 := pk_k42.2
theorem en_k5c : Enters Go.Proofs.Tryz.prog 17 := ⟨_, Go.Proofs.Tryz.func17, rfl, rfl⟩
def ty_k5c : List (Nat × TI) := [(62, { size := 9, bytes := 96, agg := true, zero := [.sc (.int .i64 0), .sc (.int .i64 0), .sc (.int .i64 0), .sc (.int .i64 0), .sc (.int .i64 0), .sc (.int .i64 0), .sc (.string "".toByteArray), .sl [], .sc (.int .i64 0)], kind := .struct [(0, 1, false), (1, 6, true), (7, 1, false), (8, 1, false)] }), (40, { size := 1, bytes := 8, agg := false, zero := [.sc (.int .i64 0)], kind := .int .i64 }), (42, { size := 6, bytes := 56, agg := true, zero := [.sc (.int .i64 0), .sc (.int .i64 0), .sc (.int .i64 0), .sc (.int .i64 0), .sc (.int .i64 0), .sc (.string "".toByteArray)], kind := .struct [(0, 1, false), (1, 1, false), (2, 1, false), (3, 1, false), (4, 1, false), (5, 1, false)] }), (3, { size := 1, bytes := 8, agg := false, zero := [.sc (.int .i64 0)], kind := .int .i64 }), (36, { size := 1, bytes := 24, agg := false, zero := [.sl []], kind := .slice 42 })]
noncomputable def C_k5c : Cfg := mkC ty_k5c [(42, [.i .i64, .i .i64, .i .i64, .i .i64, .i .i64, .s])] [(32, M_k4a)] [32] [] [] [] []
theorem E_k5c : Env1 Go.Proofs.Tryz.prog C_k5c := mkC_ok (by kernel_rfl) (⟨⟨en_k4a, cc_k4a⟩, trivial⟩) (by kernel_rfl)
theorem C_k5c_ty : (C_k5c).ty = ty_k5c := rfl
theorem C_k5c_eqs : (C_k5c).eqs = [(42, [.i .i64, .i .i64, .i .i64, .i .i64, .i .i64, .s])] := rfl
theorem C_k5c_call : (C_k5c).call = fun f => (([(32, M_k4a)] : List (Nat × (List DA → Option (List RV)))).lookup f).getD fun _ => none := rfl
theorem C_k5c_calls : (C_k5c).calls = [32] := rfl
theorem C_k5c_scal : (C_k5c).scal = [32] := rfl
theorem C_k5c_owns : (C_k5c).owns = [] := rfl
theorem C_k5c_vars : (C_k5c).vars = [] := rfl
theorem C_k5c_ores : (C_k5c).ores = [] := rfl
theorem C_k5c_flags : (C_k5c).flags = [] := rfl
theorem C_k5c_pins : (C_k5c).pins = [] := rfl
theorem C_k5c_inls : (C_k5c).inls = [] := rfl
def T_k5c : List (Nat × LoopA) := []
set_option maxHeartbeats 20000000 in
set_option maxRecDepth 100000 in
noncomputable def pk_k5c : { F : Result → Result → Option (Bool) // CallC Go.Proofs.Tryz.prog 17 (con2 (eT ceResult) (eT ceResult) (fun x0 x1 => (F x0 x1).map (res1 rB).enc)) } :=
  ⟨_, cc2 E_k5c Go.Proofs.Tryz.func17 rfl rfl (T := T_k5c) (G := []) (r := (res1 rB)) fun x0 x1 => by
    unfold Wf
    simp (maxSteps := 10000000) (implicitDefEqProofs := false) [-env0, -envI, env0_tree, envI_tree, -evOps, -evOne, -evOp, -evIndexAddr, -evIndex, -evPick, -binV, -evLoad, -evStore, -loadC, -callV, -nilC, -storeC, -toDVs, -toDAs, -resRs, List.lookup, List.replicate, List.range_succ, ty_k5c, C_k5c_ty, C_k5c_eqs, C_k5c_call, C_k5c_calls, C_k5c_scal, C_k5c_owns, C_k5c_vars, C_k5c_ores, C_k5c_flags, C_k5c_pins, C_k5c_inls, T_k5c, Go.Proofs.Tryz.f17, M_k4a, iC, uC, bC, sC, Result.c, Tx.c]
    try rfl⟩
noncomputable def F_k5c : Result → Result → Option (Bool) := pk_k5c.1
noncomputable def M_k5c : List DA → Option (List RV) := con2 (eT ceResult) (eT ceResult) (fun x0 x1 => (F_k5c x0 x1).map (res1 rB).enc)
theorem cc_k5c : CallC Go.Proofs.Tryz.prog 17 M_k5c := pk_k5c.2
theorem en_k6b : Enters Go.Proofs.Tryz.prog 112 := ⟨_, Go.Proofs.Tryz.func112, rfl, rfl⟩
def ty_k6b : List (Nat × TI) := [(3, { size := 1, bytes := 8, agg := false, zero := [.sc (.int .i64 0)], kind := .int .i64 })]
noncomputable def C_k6b : Cfg := mkC ty_k6b [] [] [] [] [] [] []
theorem E_k6b : Env1 Go.Proofs.Tryz.prog C_k6b := mkC_ok (by kernel_rfl) trivial (by kernel_rfl)
theorem C_k6b_ty : (C_k6b).ty = ty_k6b := rfl
theorem C_k6b_eqs : (C_k6b).eqs = [] := rfl
theorem C_k6b_call : (C_k6b).call = fun f => (([] : List (Nat × (List DA → Option (List RV)))).lookup f).getD fun _ => none := rfl
theorem C_k6b_calls : (C_k6b).calls = [] := rfl
theorem C_k6b_scal : (C_k6b).scal = [] := rfl
theorem C_k6b_owns : (C_k6b).owns = [] := rfl
theorem C_k6b_vars : (C_k6b).vars = [] := rfl
theorem C_k6b_ores : (C_k6b).ores = [] := rfl
theorem C_k6b_flags : (C_k6b).flags = [] := rfl
theorem C_k6b_pins : (C_k6b).pins = [] := rfl
theorem C_k6b_inls : (C_k6b).inls = [] := rfl
def T_k6b : List (Nat × LoopA) := []
set_option maxHeartbeats 20000000 in
set_option maxRecDepth 100000 in
noncomputable def pk_k6b : { F : Int → Int → Option (Int × Bool) // CallC Go.Proofs.Tryz.prog 112 (con2 eInt eInt (fun x0 x1 => (F x0 x1).map (res2 rI rB).enc)) } :=
  ⟨_, cc2 E_k6b Go.Proofs.Tryz.func112 rfl rfl (T := T_k6b) (G := []) (r := (res2 rI rB)) fun x0 x1 => by
    unfold Wf
    simp (maxSteps := 10000000) (implicitDefEqProofs := false) [-env0, -envI, env0_tree, envI_tree, -evOps, -evOne, -evOp, -evIndexAddr, -evIndex, -evPick, -binV, -evLoad, -evStore, -loadC, -callV, -nilC, -storeC, -toDVs, -toDAs, -resRs, List.lookup, List.replicate, List.range_succ, ty_k6b, C_k6b_ty, C_k6b_eqs, C_k6b_call, C_k6b_calls, C_k6b_scal, C_k6b_owns, C_k6b_vars, C_k6b_ores, C_k6b_flags, C_k6b_pins, C_k6b_inls, T_k6b, Go.Proofs.Tryz.f112, iC, uC, bC, sC]
    try rfl⟩
noncomputable def F_k6b : Int → Int → Option (Int × Bool) := pk_k6b.1
noncomputable def M_k6b : List DA → Option (List RV) := con2 eInt eInt (fun x0 x1 => (F_k6b x0 x1).map (res2 rI rB).enc)
theorem cc_k6b : CallC Go.Proofs.Tryz.prog 112 M_k6b := pk_k6b.2
theorem en_k6c : Enters Go.Proofs.Tryz.prog 123 := ⟨_, Go.Proofs.Tryz.func123, rfl, rfl⟩
def ty_k6c : List (Nat × TI) := [(3, { size := 1, bytes := 8, agg := false, zero := [.sc (.int .i64 0)], kind := .int .i64 })]
noncomputable def C_k6c : Cfg := mkC ty_k6c [] [] [] [] [] [] []
theorem E_k6c : Env1 Go.Proofs.Tryz.prog C_k6c := mkC_ok (by kernel_rfl) trivial (by kernel_rfl)
theorem C_k6c_ty : (C_k6c).ty = ty_k6c := rfl
theorem C_k6c_eqs : (C_k6c).eqs = [] := rfl
theorem C_k6c_call : (C_k6c).call = fun f => (([] : List (Nat × (List DA → Option (List RV)))).lookup f).getD fun _ => none := rfl
theorem C_k6c_calls : (C_k6c).calls = [] := rfl
theorem C_k6c_scal : (C_k6c).scal = [] := rfl
theorem C_k6c_owns : (C_k6c).owns = [] := rfl
theorem C_k6c_vars : (C_k6c).vars = [] := rfl
theorem C_k6c_ores : (C_k6c).ores = [] := rfl
theorem C_k6c_flags : (C_k6c).flags = [] := rfl
theorem C_k6c_pins : (C_k6c).pins = [] := rfl
theorem C_k6c_inls : (C_k6c).inls = [] := rfl
def T_k6c : List (Nat × LoopA) := []
set_option maxHeartbeats 20000000 in
set_option maxRecDepth 100000 in
noncomputable def pk_k6c : { F : Int → Option (Int) // CallC Go.Proofs.Tryz.prog 123 (con1 eInt (fun x0 => (F x0).map (res1 rI).enc)) } :=
  ⟨_, cc1 E_k6c Go.Proofs.Tryz.func123 rfl rfl (T := T_k6c) (G := []) (r := (res1 rI)) fun x0 => by
    unfold Wf
    simp (maxSteps := 10000000) (implicitDefEqProofs := false) [-env0, -envI, env0_tree, envI_tree, -evOps, -evOne, -evOp, -evIndexAddr, -evIndex, -evPick, -binV, -evLoad, -evStore, -loadC, -callV, -nilC, -storeC, -toDVs, -toDAs, -resRs, List.lookup, List.replicate, List.range_succ, ty_k6c, C_k6c_ty, C_k6c_eqs, C_k6c_call, C_k6c_calls, C_k6c_scal, C_k6c_owns, C_k6c_vars, C_k6c_ores, C_k6c_flags, C_k6c_pins, C_k6c_inls, T_k6c, Go.Proofs.Tryz.f123, iC, uC, bC, sC]
    try rfl⟩
noncomputable def F_k6c : Int → Option (Int) := pk_k6c.1
noncomputable def M_k6c : List DA → Option (List RV) := con1 eInt (fun x0 => (F_k6c x0).map (res1 rI).enc)
theorem cc_k6c : CallC Go.Proofs.Tryz.prog 123 M_k6c := pk_k6c.2
theorem en_k94 : Enters Go.Proofs.Tryz.prog 91 := ⟨_, Go.Proofs.Tryz.func91, rfl, rfl⟩
def ty_k94 : List (Nat × TI) := [(3, { size := 1, bytes := 8, agg := false, zero := [.sc (.int .i64 0)], kind := .int .i64 })]
noncomputable def C_k94 : Cfg := mkC ty_k94 [] [] [] [] [] [] []
theorem E_k94 : Env1 Go.Proofs.Tryz.prog C_k94 := mkC_ok (by kernel_rfl) trivial (by kernel_rfl)
theorem C_k94_ty : (C_k94).ty = ty_k94 := rfl
theorem C_k94_eqs : (C_k94).eqs = [] := rfl
theorem C_k94_call : (C_k94).call = fun f => (([] : List (Nat × (List DA → Option (List RV)))).lookup f).getD fun _ => none := rfl
theorem C_k94_calls : (C_k94).calls = [] := rfl
theorem C_k94_scal : (C_k94).scal = [] := rfl
theorem C_k94_owns : (C_k94).owns = [] := rfl
theorem C_k94_vars : (C_k94).vars = [] := rfl
theorem C_k94_ores : (C_k94).ores = [] := rfl
theorem C_k94_flags : (C_k94).flags = [] := rfl
theorem C_k94_pins : (C_k94).pins = [] := rfl
theorem C_k94_inls : (C_k94).inls = [] := rfl
def T_k94 : List (Nat × LoopA) := []
set_option maxHeartbeats 20000000 in
set_option maxRecDepth 100000 in
noncomputable def pk_k94 : { F : Int → Int → Int → Option (Bool) // CallC Go.Proofs.Tryz.prog 91 (con3 eInt eInt eInt (fun x0 x1 x2 => (F x0 x1 x2).map (res1 rB).enc)) } :=
  ⟨_, cc3 E_k94 Go.Proofs.Tryz.func91 rfl rfl (T := T_k94) (G := []) (r := (res1 rB)) fun x0 x1 x2 => by
    unfold Wf
    simp (maxSteps := 10000000) (implicitDefEqProofs := false) [-env0, -envI, env0_tree, envI_tree, -evOps, -evOne, -evOp, -evIndexAddr, -evIndex, -evPick, -binV, -evLoad, -evStore, -loadC, -callV, -nilC, -storeC, -toDVs, -toDAs, -resRs, List.lookup, List.replicate, List.range_succ, ty_k94, C_k94_ty, C_k94_eqs, C_k94_call, C_k94_calls, C_k94_scal, C_k94_owns, C_k94_vars, C_k94_ores, C_k94_flags, C_k94_pins, C_k94_inls, T_k94, Go.Proofs.Tryz.f91, iC, uC, bC, sC]
    try rfl⟩
noncomputable def F_k94 : Int → Int → Int → Option (Bool) := pk_k94.1
noncomputable def M_k94 : List DA → Option (List RV) := con3 eInt eInt eInt (fun x0 x1 x2 => (F_k94 x0 x1 x2).map (res1 rB).enc)
theorem cc_k94 : CallC Go.Proofs.Tryz.prog 91 M_k94 := pk_k94.2
theorem en_k90 : Enters Go.Proofs.Tryz.prog 73 := ⟨_, Go.Proofs.Tryz.func73, rfl, rfl⟩
def ty_k90 : List (Nat × TI) := [(42, { size := 6, bytes := 56, agg := true, zero := [.sc (.int .i64 0), .sc (.int .i64 0), .sc (.int .i64 0), .sc (.int .i64 0), .sc (.int .i64 0), .sc (.string "".toByteArray)], kind := .struct [(0, 1, false), (1, 1, false), (2, 1, false), (3, 1, false), (4, 1, false), (5, 1, false)] }), (3, { size := 1, bytes := 8, agg := false, zero := [.sc (.int .i64 0)], kind := .int .i64 }), (9, { size := 1, bytes := 16, agg := false, zero := [.sc (.string "".toByteArray)], kind := .str })]
noncomputable def C_k90 : Cfg := mkC ty_k90 [] [(91, M_k94)] [91] [] [] [] []
theorem E_k90 : Env1 Go.Proofs.Tryz.prog C_k90 := mkC_ok (by kernel_rfl) (⟨⟨en_k94, cc_k94⟩, trivial⟩) (by kernel_rfl)
theorem C_k90_ty : (C_k90).ty = ty_k90 := rfl
theorem C_k90_eqs : (C_k90).eqs = [] := rfl
theorem C_k90_call : (C_k90).call = fun f => (([(91, M_k94)] : List (Nat × (List DA → Option (List RV)))).lookup f).getD fun _ => none := rfl
theorem C_k90_calls : (C_k90).calls = [91] := rfl
theorem C_k90_scal : (C_k90).scal = [91] := rfl
theorem C_k90_owns : (C_k90).owns = [] := rfl
theorem C_k90_vars : (C_k90).vars = [] := rfl
theorem C_k90_ores : (C_k90).ores = [] := rfl
theorem C_k90_flags : (C_k90).flags = [] := rfl
theorem C_k90_pins : (C_k90).pins = [] := rfl
theorem C_k90_inls : (C_k90).inls = [] := rfl
def T_k90 : List (Nat × LoopA) := []
set_option maxHeartbeats 20000000 in
set_option maxRecDepth 100000 in
noncomputable def pk_k90 : { F : Tx → Option (Bool) // CallC Go.Proofs.Tryz.prog 73 (con1 (eT ceTx) (fun x0 => (F x0).map (res1 rB).enc)) } :=
  ⟨_, cc1 E_k90 Go.Proofs.Tryz.func73 rfl rfl (T := T_k90) (G := []) (r := (res1 rB)) fun x0 => by
    unfold Wf
    simp (maxSteps := 10000000) (implicitDefEqProofs := false) [-env0, -envI, env0_tree, envI_tree, -evOps, -evOne, -evOp, -evIndexAddr, -evIndex, -evPick, -binV, -evLoad, -evStore, -loadC, -callV, -nilC, -storeC, -toDVs, -toDAs, -resRs, List.lookup, List.replicate, List.range_succ, ty_k90, C_k90_ty, C_k90_eqs, C_k90_call, C_k90_calls, C_k90_scal, C_k90_owns, C_k90_vars, C_k90_ores, C_k90_flags, C_k90_pins, C_k90_inls, T_k90, Go.Proofs.Tryz.f73, M_k94, iC, uC, bC, sC, Tx.c]
    try rfl⟩
noncomputable def F_k90 : Tx → Option (Bool) := pk_k90.1
noncomputable def M_k90 : List DA → Option (List RV) := con1 (eT ceTx) (fun x0 => (F_k90 x0).map (res1 rB).enc)
theorem cc_k90 : CallC Go.Proofs.Tryz.prog 73 M_k90 := pk_k90.2
theorem en_k38 : Enters Go.Proofs.Tryz.prog 72 := ⟨_, Go.Proofs.Tryz.func72, rfl, rfl⟩
def ty_k38 : List (Nat × TI) := [(3, { size := 1, bytes := 8, agg := false, zero := [.sc (.int .i64 0)], kind := .int .i64 })]
noncomputable def C_k38 : Cfg := mkC ty_k38 [] [] [] [] [] [] []
theorem E_k38 : Env1 Go.Proofs.Tryz.prog C_k38 := mkC_ok (by kernel_rfl) trivial (by kernel_rfl)
theorem C_k38_ty : (C_k38).ty = ty_k38 := rfl
theorem C_k38_eqs : (C_k38).eqs = [] := rfl
theorem C_k38_call : (C_k38).call = fun f => (([] : List (Nat × (List DA → Option (List RV)))).lookup f).getD fun _ => none := rfl
theorem C_k38_calls : (C_k38).calls = [] := rfl
theorem C_k38_scal : (C_k38).scal = [] := rfl
theorem C_k38_owns : (C_k38).owns = [] := rfl
theorem C_k38_vars : (C_k38).vars = [] := rfl
theorem C_k38_ores : (C_k38).ores = [] := rfl
theorem C_k38_flags : (C_k38).flags = [] := rfl
theorem C_k38_pins : (C_k38).pins = [] := rfl
theorem C_k38_inls : (C_k38).inls = [] := rfl
def T_k38 : List (Nat × LoopA) := []
set_option maxHeartbeats 20000000 in
set_option maxRecDepth 100000 in
noncomputable def pk_k38 : { F : Int → Int → Int → Option (Bool) // CallC Go.Proofs.Tryz.prog 72 (con3 eInt eInt eInt (fun x0 x1 x2 => (F x0 x1 x2).map (res1 rB).enc)) } :=
  ⟨_, cc3 E_k38 Go.Proofs.Tryz.func72 rfl rfl (T := T_k38) (G := []) (r := (res1 rB)) fun x0 x1 x2 => by
    unfold Wf
    simp (maxSteps := 10000000) (implicitDefEqProofs := false) [-env0, -envI, env0_tree, envI_tree, -evOps, -evOne, -evOp, -evIndexAddr, -evIndex, -evPick, -binV, -evLoad, -evStore, -loadC, -callV, -nilC, -storeC, -toDVs, -toDAs, -resRs, List.lookup, List.replicate, List.range_succ, ty_k38, C_k38_ty, C_k38_eqs, C_k38_call, C_k38_calls, C_k38_scal, C_k38_owns, C_k38_vars, C_k38_ores, C_k38_flags, C_k38_pins, C_k38_inls, T_k38, Go.Proofs.Tryz.f72, iC, uC, bC, sC]
    try rfl⟩
noncomputable def F_k38 : Int → Int → Int → Option (Bool) := pk_k38.1
noncomputable def M_k38 : List DA → Option (List RV) := con3 eInt eInt eInt (fun x0 x1 x2 => (F_k38 x0 x1 x2).map (res1 rB).enc)
theorem cc_k38 : CallC Go.Proofs.Tryz.prog 72 M_k38 := pk_k38.2
theorem en_k31 : Enters Go.Proofs.Tryz.prog 58 := ⟨_, Go.Proofs.Tryz.func58, rfl, rfl⟩
def ty_k31 : List (Nat × TI) := [(38, { size := 3, bytes := 40, agg := true, zero := [.sc (.int .i64 0), .sc (.int .i64 0), .sl []], kind := .struct [(0, 1, false), (1, 1, false), (2, 1, false)] }), (3, { size := 1, bytes := 8, agg := false, zero := [.sc (.int .i64 0)], kind := .int .i64 }), (36, { size := 1, bytes := 24, agg := false, zero := [.sl []], kind := .slice 42 }), (42, { size := 6, bytes := 56, agg := true, zero := [.sc (.int .i64 0), .sc (.int .i64 0), .sc (.int .i64 0), .sc (.int .i64 0), .sc (.int .i64 0), .sc (.string "".toByteArray)], kind := .struct [(0, 1, false), (1, 1, false), (2, 1, false), (3, 1, false), (4, 1, false), (5, 1, false)] })]
noncomputable def C_k31 : Cfg := mkC ty_k31 [] [(72, M_k38), (73, M_k90)] [72, 73] [] [2,5,33,34,35] [] []
theorem E_k31 : Env1 Go.Proofs.Tryz.prog C_k31 := mkC_ok (by kernel_rfl) (⟨⟨en_k38, cc_k38⟩, ⟨⟨en_k90, cc_k90⟩, trivial⟩⟩) (by kernel_rfl)
theorem C_k31_ty : (C_k31).ty = ty_k31 := rfl
theorem C_k31_eqs : (C_k31).eqs = [] := rfl
theorem C_k31_call : (C_k31).call = fun f => (([(72, M_k38), (73, M_k90)] : List (Nat × (List DA → Option (List RV)))).lookup f).getD fun _ => none := rfl
theorem C_k31_calls : (C_k31).calls = [72, 73] := rfl
theorem C_k31_scal : (C_k31).scal = [72, 73] := rfl
theorem C_k31_owns : (C_k31).owns = [] := rfl
theorem C_k31_vars : (C_k31).vars = [2,5,33,34,35] := rfl
theorem C_k31_ores : (C_k31).ores = [] := rfl
theorem C_k31_flags : (C_k31).flags = [] := rfl
theorem C_k31_pins : (C_k31).pins = [] := rfl
theorem C_k31_inls : (C_k31).inls = [] := rfl
structure L_k31_0 where
  next : Int
  v33 : List Tx
  v34 : Int
  v35 : Int
  a_ : Acc
def an_k31_0 : Ann := mkAnn (σ := L_k31_0) (lSkip vUnk <| lSkip vUnk <| lSkip (vOne (cPtr 0 0 0)) <| lSkip vUnk <| lSkip vUnk <| lCons (vOne cI) <| lSkip vUnk <| lSkip vUnk <| lSkip vUnk <| lSkip vUnk <| lSkip vUnk <| lSkip vUnk <| lSkip vUnk <| lSkip vUnk <| lSkip vUnk <| lSkip vUnk <| lSkip vUnk <| lSkip vUnk <| lSkip vUnk <| lSkip vUnk <| lSkip vUnk <| lSkip vUnk <| lSkip vUnk <| lSkip vUnk <| lSkip vUnk <| lSkip vUnk <| lSkip vUnk <| lSkip vUnk <| lSkip vUnk <| lSkip vUnk <| lSkip vUnk <| lSkip vUnk <| lSkip vUnk <| lCons (vOne (cSl ceTx)) <| lCons (vOne cI) <| lCons (vOne cI) <| lSkip vUnk <| lSkip vUnk <| lSkip vUnk <| lSkip vUnk <| lSkip vUnk <| lSkip vUnk <| lSkip vUnk <| lSkip vUnk <| lSkip vUnk <| lSkip vUnk <| lSkip vUnk <| lSkip vUnk <| lSkip vUnk <| lSkip vUnk <| lSkip vUnk <| lSkip vUnk <| lSkip vUnk <| lSkip vUnk <| lSkip vUnk <| lSkip vUnk <| lSkip vUnk <| lSkip vUnk <| lSkip vUnk <|  lNil) (lCons (oBox 38 (cStr ceAcc)) <|  lNil)
  (fun a b => L_k31_0.mk (a.1) (a.2.1) (a.2.2.1) (a.2.2.2.1) (b.1)) (fun s => (s.next, s.v33, s.v34, s.v35, ())) (fun s => (s.a_, ())) (fun a b => true) (fun _ _ _ => ⟨rfl, rfl⟩)
set_option maxRecDepth 100000 in
theorem an_k31_0_st (s : an_k31_0.σ) : an_k31_0.st s = (toL 59 (.node (.node (.node (.node (.node (.node (.node (.leaf (.unk)) (.node (.leaf (.v (.one (.ptr 0 0 0)))) (.leaf (.unk)))) (.node (.node (.leaf (.unk)) (.leaf (.v (.one (.d (.sc (.int .i64 (L_k31_0.next s)))))))) (.leaf (.unk)))) (.leaf (.unk))) (.leaf (.unk))) (.node (.node (.node (.node (.node (.leaf (.unk)) (.leaf (.v (.one (.d (.sl ((L_k31_0.v33 s).map Tx.c))))))) (.node (.leaf (.v (.one (.d (.sc (.int .i64 (L_k31_0.v34 s))))))) (.leaf (.v (.one (.d (.sc (.int .i64 (L_k31_0.v35 s))))))))) (.leaf (.unk))) (.leaf (.unk))) (.leaf (.unk)))) (.leaf (.unk))) (.leaf (.unk))), [.box 38 (ddv (Acc.c (L_k31_0.a_ s)))]) := rfl
set_option maxHeartbeats 4000000 in
set_option maxRecDepth 100000 in
theorem an_k31_0_un {β : Type} (next : Int) (p_v33 : List (List DV)) (v34 : Int) (v35 : Int) (p_a_ : List CV) (f_ : an_k31_0.σ → Option β) : (an_k31_0.un [.unk, .unk, .v (.one (.ptr 0 0 0)), .unk, .unk, .v (.one (.d (.sc (.int .i64 next)))), .unk, .unk, .unk, .unk, .unk, .unk, .unk, .unk, .unk, .unk, .unk, .unk, .unk, .unk, .unk, .unk, .unk, .unk, .unk, .unk, .unk, .unk, .unk, .unk, .unk, .unk, .unk, .v (.one (.d (.sl p_v33))), .v (.one (.d (.sc (.int .i64 v34)))), .v (.one (.d (.sc (.int .i64 v35)))), .unk, .unk, .unk, .unk, .unk, .unk, .unk, .unk, .unk, .unk, .unk, .unk, .unk, .unk, .unk, .unk, .unk, .unk, .unk, .unk, .unk, .unk, .unk] [.box 38 p_a_]).bind f_ = (decL dTx p_v33).bind fun v33 => ((allD p_a_).bind dAcc).bind fun a_ => f_ (L_k31_0.mk next v33 v34 v35 a_) :=
  (mkAnn_un (σ := L_k31_0) _ _ _ _ _ _ _ _ _ f_).trans (by simp (maxSteps := 10000000) [Option.bind_assoc])
def T_k31 : List (Nat × LoopA) := [(0, .ty an_k31_0)]
set_option maxHeartbeats 20000000 in
set_option maxRecDepth 100000 in
noncomputable def pk_k31 : { F : Acc → Int → Option (Bool) // CallC Go.Proofs.Tryz.prog 58 (con2 (eT ceAcc) eInt (fun x0 x1 => (F x0 x1).map (res1 rB).enc)) } :=
  ⟨_, cc2 E_k31 Go.Proofs.Tryz.func58 rfl rfl (T := T_k31) (G := []) (r := (res1 rB)) fun x0 x1 => by
    unfold Wf
    simp (maxSteps := 10000000) (implicitDefEqProofs := false) [-env0, -envI, env0_tree, envI_tree, -evOps, -evOne, -evOp, -evIndexAddr, -evIndex, -evPick, -binV, -evLoad, -evStore, -loadC, -callV, -nilC, -storeC, -toDVs, -toDAs, -resRs, List.lookup, List.replicate, List.range_succ, ty_k31, C_k31_ty, C_k31_eqs, C_k31_call, C_k31_calls, C_k31_scal, C_k31_owns, C_k31_vars, C_k31_ores, C_k31_flags, C_k31_pins, C_k31_inls, T_k31, Go.Proofs.Tryz.f58, M_k38, M_k90, an_k31_0_st, an_k31_0_un, iC, uC, bC, sC, Acc.c, Tx.c]
    try rfl⟩
noncomputable def F_k31 : Acc → Int → Option (Bool) := pk_k31.1
noncomputable def M_k31 : List DA → Option (List RV) := con2 (eT ceAcc) eInt (fun x0 x1 => (F_k31 x0 x1).map (res1 rB).enc)
theorem cc_k31 : CallC Go.Proofs.Tryz.prog 58 M_k31 := pk_k31.2
theorem en_k34 : Enters Go.Proofs.Tryz.prog 96 := ⟨_, Go.Proofs.Tryz.func96, rfl, rfl⟩
def ty_k34 : List (Nat × TI) := [(38, { size := 3, bytes := 40, agg := true, zero := [.sc (.int .i64 0), .sc (.int .i64 0), .sl []], kind := .struct [(0, 1, false), (1, 1, false), (2, 1, false)] }), (42, { size := 6, bytes := 56, agg := true, zero := [.sc (.int .i64 0), .sc (.int .i64 0), .sc (.int .i64 0), .sc (.int .i64 0), .sc (.int .i64 0), .sc (.string "".toByteArray)], kind := .struct [(0, 1, false), (1, 1, false), (2, 1, false), (3, 1, false), (4, 1, false), (5, 1, false)] }), (36, { size := 1, bytes := 24, agg := false, zero := [.sl []], kind := .slice 42 }), (3, { size := 1, bytes := 8, agg := false, zero := [.sc (.int .i64 0)], kind := .int .i64 })]
noncomputable def C_k34 : Cfg := mkC ty_k34 [] [(113, M_k39)] [113] [] [] [] []
theorem E_k34 : Env1 Go.Proofs.Tryz.prog C_k34 := mkC_ok (by kernel_rfl) (⟨⟨en_k39, cc_k39⟩, trivial⟩) (by kernel_rfl)
theorem C_k34_ty : (C_k34).ty = ty_k34 := rfl
theorem C_k34_eqs : (C_k34).eqs = [] := rfl
theorem C_k34_call : (C_k34).call = fun f => (([(113, M_k39)] : List (Nat × (List DA → Option (List RV)))).lookup f).getD fun _ => none := rfl
theorem C_k34_calls : (C_k34).calls = [113] := rfl
theorem C_k34_scal : (C_k34).scal = [113] := rfl
theorem C_k34_owns : (C_k34).owns = [] := rfl
theorem C_k34_vars : (C_k34).vars = [] := rfl
theorem C_k34_ores : (C_k34).ores = [] := rfl
theorem C_k34_flags : (C_k34).flags = [] := rfl
theorem C_k34_pins : (C_k34).pins = [] := rfl
theorem C_k34_inls : (C_k34).inls = [] := rfl
def T_k34 : List (Nat × LoopA) := []
set_option maxHeartbeats 20000000 in
set_option maxRecDepth 100000 in
noncomputable def pk_k34 : { F : Acc → Int → Option (Tx × Bool) // CallC Go.Proofs.Tryz.prog 96 (con2 (eT ceAcc) eInt (fun x0 x1 => (F x0 x1).map (res2 (rAgg ceTx) rB).enc)) } :=
  ⟨_, cc2 E_k34 Go.Proofs.Tryz.func96 rfl rfl (T := T_k34) (G := []) (r := (res2 (rAgg ceTx) rB)) fun x0 x1 => by
    unfold Wf
    simp (maxSteps := 10000000) (implicitDefEqProofs := false) [-env0, -envI, env0_tree, envI_tree, -evOps, -evOne, -evOp, -evIndexAddr, -evIndex, -evPick, -binV, -evLoad, -evStore, -loadC, -callV, -nilC, -storeC, -toDVs, -toDAs, -resRs, List.lookup, List.replicate, List.range_succ, ty_k34, C_k34_ty, C_k34_eqs, C_k34_call, C_k34_calls, C_k34_scal, C_k34_owns, C_k34_vars, C_k34_ores, C_k34_flags, C_k34_pins, C_k34_inls, T_k34, Go.Proofs.Tryz.f96, M_k39, iC, uC, bC, sC, Acc.c, Tx.c]
    try rfl⟩
noncomputable def F_k34 : Acc → Int → Option (Tx × Bool) := pk_k34.1
noncomputable def M_k34 : List DA → Option (List RV) := con2 (eT ceAcc) eInt (fun x0 x1 => (F_k34 x0 x1).map (res2 (rAgg ceTx) rB).enc)
theorem cc_k34 : CallC Go.Proofs.Tryz.prog 96 M_k34 := pk_k34.2
theorem en_k30 : Enters Go.Proofs.Tryz.prog 102 := ⟨_, Go.Proofs.Tryz.func102, rfl, rfl⟩
def ty_k30 : List (Nat × TI) := [(38, { size := 3, bytes := 40, agg := true, zero := [.sc (.int .i64 0), .sc (.int .i64 0), .sl []], kind := .struct [(0, 1, false), (1, 1, false), (2, 1, false)] }), (36, { size := 1, bytes := 24, agg := false, zero := [.sl []], kind := .slice 42 }), (3, { size := 1, bytes := 8, agg := false, zero := [.sc (.int .i64 0)], kind := .int .i64 }), (42, { size := 6, bytes := 56, agg := true, zero := [.sc (.int .i64 0), .sc (.int .i64 0), .sc (.int .i64 0), .sc (.int .i64 0), .sc (.int .i64 0), .sc (.string "".toByteArray)], kind := .struct [(0, 1, false), (1, 1, false), (2, 1, false), (3, 1, false), (4, 1, false), (5, 1, false)] })]
noncomputable def C_k30 : Cfg := mkC ty_k30 [] [(72, M_k38)] [72] [(5, [(0, 42, 6)]), (7, [(0, 42, 6)]), (8, [(0, 42, 6)])] [1,2,4,7,8,23,24,25] [] []
theorem E_k30 : Env1 Go.Proofs.Tryz.prog C_k30 := mkC_ok (by kernel_rfl) (⟨⟨en_k38, cc_k38⟩, trivial⟩) (by kernel_rfl)
theorem C_k30_ty : (C_k30).ty = ty_k30 := rfl
theorem C_k30_eqs : (C_k30).eqs = [] := rfl
theorem C_k30_call : (C_k30).call = fun f => (([(72, M_k38)] : List (Nat × (List DA → Option (List RV)))).lookup f).getD fun _ => none := rfl
theorem C_k30_calls : (C_k30).calls = [72] := rfl
theorem C_k30_scal : (C_k30).scal = [72] := rfl
theorem C_k30_owns : (C_k30).owns = [(5, [(0, 42, 6)]), (7, [(0, 42, 6)]), (8, [(0, 42, 6)])] := rfl
theorem C_k30_vars : (C_k30).vars = [1,2,4,7,8,23,24,25] := rfl
theorem C_k30_ores : (C_k30).ores = [] := rfl
theorem C_k30_flags : (C_k30).flags = [] := rfl
theorem C_k30_pins : (C_k30).pins = [] := rfl
theorem C_k30_inls : (C_k30).inls = [] := rfl
structure L_k30_1 where
  base : Int
  v23 : List Tx
  v24 : Int
  v25 : Int
  a_ : Acc
  sender : Int
  base2 : Int
  o2 : List Tx
  left : List Tx
  gone : List Tx
def an_k30_1 : Ann := mkAnn (σ := L_k30_1) (lSkip vUnk <| lCons (vOne cI) <| lSkip (vOne (cPtr 0 0 0)) <| lSkip vUnk <| lSkip (vOne (cPtr 1 0 0)) <| lSkip vUnk <| lSkip vUnk <| lCons (vOne (cOwn 3)) <| lCons (vOne (cOwn 4)) <| lSkip vUnk <| lSkip vUnk <| lSkip vUnk <| lSkip vUnk <| lSkip vUnk <| lSkip vUnk <| lSkip vUnk <| lSkip vUnk <| lSkip vUnk <| lSkip vUnk <| lSkip vUnk <| lSkip vUnk <| lSkip vUnk <| lSkip vUnk <| lCons (vOne (cSl ceTx)) <| lCons (vOne cI) <| lCons (vOne cI) <| lSkip vUnk <| lSkip vUnk <| lSkip vUnk <| lSkip vUnk <| lSkip vUnk <| lSkip vUnk <| lSkip vUnk <| lSkip vUnk <| lSkip vUnk <| lSkip vUnk <| lSkip vUnk <| lSkip vUnk <| lSkip vUnk <| lSkip vUnk <| lSkip vUnk <| lSkip vUnk <| lSkip vUnk <| lSkip vUnk <| lSkip vUnk <| lSkip vUnk <| lSkip vUnk <| lSkip vUnk <|  lNil) (lCons (oBox 38 (cStr ceAcc)) <| lCons (oBox 38 (lCons cI <| lCons cI <| lSkip cNil <|  lNil)) <| lCons (oArr 42 6 ceTx) <| lCons (oArr 42 6 ceTx) <| lCons (oArr 42 6 ceTx) <|  lNil)
  (fun a b => L_k30_1.mk (a.1) (a.2.2.2.1) (a.2.2.2.2.1) (a.2.2.2.2.2.1) (b.1) (b.2.1.1) (b.2.1.2.1) (b.2.2.1) (b.2.2.2.1) (b.2.2.2.2.1)) (fun s => (s.base, s.left.length, s.gone.length, s.v23, s.v24, s.v25, ())) (fun s => (s.a_, (s.sender, s.base2, ()), s.o2, s.left, s.gone, ())) (fun a b => decide (a.2.1 = (b.2.2.2.1).length) && decide (a.2.2.1 = (b.2.2.2.2.1).length)) (by rintro ⟨a0, a1, a2, a3, a4, a5, _⟩ ⟨b0, ⟨c1_0, c1_1, _⟩, b2, b3, b4, _⟩ h; simp at h; simp [h])
set_option maxRecDepth 100000 in
theorem an_k30_1_st (s : an_k30_1.σ) : an_k30_1.st s = (toL 48 (.node (.node (.node (.node (.node (.node (.node (.node (.leaf (.unk)) (.leaf (.v (.one (.d (.sc (.int .i64 (L_k30_1.base s)))))))) (.node (.leaf (.v (.one (.ptr 0 0 0)))) (.leaf (.unk)))) (.node (.node (.leaf (.v (.one (.ptr 1 0 0)))) (.leaf (.unk))) (.node (.leaf (.unk)) (.leaf (.v (.one (.own 3 (L_k30_1.left s).length))))))) (.node (.node (.node (.leaf (.v (.one (.own 4 (L_k30_1.gone s).length)))) (.leaf (.unk))) (.leaf (.unk))) (.leaf (.unk)))) (.node (.node (.leaf (.unk)) (.node (.leaf (.unk)) (.node (.leaf (.unk)) (.leaf (.v (.one (.d (.sl ((L_k30_1.v23 s).map Tx.c))))))))) (.node (.node (.node (.leaf (.v (.one (.d (.sc (.int .i64 (L_k30_1.v24 s))))))) (.leaf (.v (.one (.d (.sc (.int .i64 (L_k30_1.v25 s)))))))) (.leaf (.unk))) (.leaf (.unk))))) (.leaf (.unk))) (.leaf (.unk))) (.leaf (.unk))), [.box 38 (ddv (Acc.c (L_k30_1.a_ s))), .box 38 [.d (.sc (.int .i64 (L_k30_1.sender s))), .d (.sc (.int .i64 (L_k30_1.base2 s))), .nil], .arr 42 6 ((L_k30_1.o2 s).map Tx.c), .arr 42 6 ((L_k30_1.left s).map Tx.c), .arr 42 6 ((L_k30_1.gone s).map Tx.c)]) := rfl
set_option maxHeartbeats 4000000 in
set_option maxRecDepth 100000 in
theorem an_k30_1_un {β : Type} (base : Int) (m1_left : Nat) (m2_gone : Nat) (p_v23 : List (List DV)) (v24 : Int) (v25 : Int) (p_a_ : List CV) (sender : Int) (base2 : Int) (p_o2 : List (List DV)) (p_left : List (List DV)) (p_gone : List (List DV)) (f_ : an_k30_1.σ → Option β) : (an_k30_1.un [.unk, .v (.one (.d (.sc (.int .i64 base)))), .v (.one (.ptr 0 0 0)), .unk, .v (.one (.ptr 1 0 0)), .unk, .unk, .v (.one (.own 3 m1_left)), .v (.one (.own 4 m2_gone)), .unk, .unk, .unk, .unk, .unk, .unk, .unk, .unk, .unk, .unk, .unk, .unk, .unk, .unk, .v (.one (.d (.sl p_v23))), .v (.one (.d (.sc (.int .i64 v24)))), .v (.one (.d (.sc (.int .i64 v25)))), .unk, .unk, .unk, .unk, .unk, .unk, .unk, .unk, .unk, .unk, .unk, .unk, .unk, .unk, .unk, .unk, .unk, .unk, .unk, .unk, .unk, .unk] [.box 38 p_a_, .box 38 [.d (.sc (.int .i64 sender)), .d (.sc (.int .i64 base2)), .nil], .arr 42 6 p_o2, .arr 42 6 p_left, .arr 42 6 p_gone]).bind f_ = (decL dTx p_v23).bind fun v23 => ((allD p_a_).bind dAcc).bind fun a_ => (decL dTx p_o2).bind fun o2 => (decL dTx p_left).bind fun left => (decL dTx p_gone).bind fun gone => (if m1_left = left.length ∧ m2_gone = gone.length then f_ (L_k30_1.mk base v23 v24 v25 a_ sender base2 o2 left gone) else none) :=
  (mkAnn_un (σ := L_k30_1) _ _ _ _ _ _ _ _ _ f_).trans (by simp (maxSteps := 10000000) [Option.bind_assoc, bind_ite])
def T_k30 : List (Nat × LoopA) := [(1, .ty an_k30_1)]
set_option maxHeartbeats 20000000 in
set_option maxRecDepth 100000 in
noncomputable def pk_k30 : { F : Acc → Int → Option (Acc × (List Tx) × Int) // CallC Go.Proofs.Tryz.prog 102 (con2 (eT ceAcc) eInt (fun x0 x1 => (F x0 x1).map (res3 (rAgg ceAcc) (rSl ceTx) rI).enc)) } :=
  ⟨_, cc2 E_k30 Go.Proofs.Tryz.func102 rfl rfl (T := T_k30) (G := []) (r := (res3 (rAgg ceAcc) (rSl ceTx) rI)) fun x0 x1 => by
    unfold Wf
    simp (maxSteps := 10000000) (implicitDefEqProofs := false) [-env0, -envI, env0_tree, envI_tree, -evOps, -evOne, -evOp, -evIndexAddr, -evIndex, -evPick, -binV, -evLoad, -evStore, -loadC, -callV, -nilC, -storeC, -toDVs, -toDAs, -resRs, List.lookup, List.replicate, List.range_succ, ty_k30, C_k30_ty, C_k30_eqs, C_k30_call, C_k30_calls, C_k30_scal, C_k30_owns, C_k30_vars, C_k30_ores, C_k30_flags, C_k30_pins, C_k30_inls, T_k30, Go.Proofs.Tryz.f102, M_k38, an_k30_1_st, an_k30_1_un, iC, uC, bC, sC, Acc.c, Tx.c]
    try rfl⟩
noncomputable def F_k30 : Acc → Int → Option (Acc × (List Tx) × Int) := pk_k30.1
noncomputable def M_k30 : List DA → Option (List RV) := con2 (eT ceAcc) eInt (fun x0 x1 => (F_k30 x0 x1).map (res3 (rAgg ceAcc) (rSl ceTx) rI).enc)
theorem cc_k30 : CallC Go.Proofs.Tryz.prog 102 M_k30 := pk_k30.2
theorem en_k06 : Enters Go.Proofs.Tryz.prog 129 := ⟨_, Go.Proofs.Tryz.func129, rfl, rfl⟩
def ty_k06 : List (Nat × TI) := [(9, { size := 1, bytes := 16, agg := false, zero := [.sc (.string "".toByteArray)], kind := .str }), (3, { size := 1, bytes := 8, agg := false, zero := [.sc (.int .i64 0)], kind := .int .i64 }), (5, { size := 1, bytes := 1, agg := false, zero := [.sc (.int .u8 0)], kind := .int .u8 }), (114, { size := 1, bytes := 24, agg := false, zero := [.sl []], kind := .slice 5 })]
noncomputable def C_k06 : Cfg := mkC ty_k06 [] [] [] [] [] [] []
theorem E_k06 : Env1 Go.Proofs.Tryz.prog C_k06 := mkC_ok (by kernel_rfl) trivial (by kernel_rfl)
theorem C_k06_ty : (C_k06).ty = ty_k06 := rfl
theorem C_k06_eqs : (C_k06).eqs = [] := rfl
theorem C_k06_call : (C_k06).call = fun f => (([] : List (Nat × (List DA → Option (List RV)))).lookup f).getD fun _ => none := rfl
theorem C_k06_calls : (C_k06).calls = [] := rfl
theorem C_k06_scal : (C_k06).scal = [] := rfl
theorem C_k06_owns : (C_k06).owns = [] := rfl
theorem C_k06_vars : (C_k06).vars = [] := rfl
theorem C_k06_ores : (C_k06).ores = [] := rfl
theorem C_k06_flags : (C_k06).flags = [] := rfl
theorem C_k06_pins : (C_k06).pins = [] := rfl
theorem C_k06_inls : (C_k06).inls = [] := rfl
def T_k06 : List (Nat × LoopA) := []
set_option maxHeartbeats 20000000 in
set_option maxRecDepth 100000 in
noncomputable def pk_k06 : { F : ByteArray → Option (ByteArray) // CallC Go.Proofs.Tryz.prog 129 (con1 eStr (fun x0 => (F x0).map (res1 rS).enc)) } :=
  ⟨_, cc1 E_k06 Go.Proofs.Tryz.func129 rfl rfl (T := T_k06) (G := []) (r := (res1 rS)) fun x0 => by
    unfold Wf
    simp (maxSteps := 10000000) (implicitDefEqProofs := false) [-env0, -envI, env0_tree, envI_tree, -evOps, -evOne, -evOp, -evIndexAddr, -evIndex, -evPick, -binV, -evLoad, -evStore, -loadC, -callV, -nilC, -storeC, -toDVs, -toDAs, -resRs, List.lookup, List.replicate, List.range_succ, ty_k06, C_k06_ty, C_k06_eqs, C_k06_call, C_k06_calls, C_k06_scal, C_k06_owns, C_k06_vars, C_k06_ores, C_k06_flags, C_k06_pins, C_k06_inls, T_k06, Go.Proofs.Tryz.f129, iC, uC, bC, sC]
    try rfl⟩
noncomputable def F_k06 : ByteArray → Option (ByteArray) := pk_k06.1
noncomputable def M_k06 : List DA → Option (List RV) := con1 eStr (fun x0 => (F_k06 x0).map (res1 rS).enc)
theorem cc_k06 : CallC Go.Proofs.Tryz.prog 129 M_k06 := pk_k06.2
theorem en_k08 : Enters Go.Proofs.Tryz.prog 109 := ⟨_, Go.Proofs.Tryz.func109, rfl, rfl⟩
def ty_k08 : List (Nat × TI) := [(114, { size := 1, bytes := 24, agg := false, zero := [.sl []], kind := .slice 5 }), (3, { size := 1, bytes := 8, agg := false, zero := [.sc (.int .i64 0)], kind := .int .i64 }), (5, { size := 1, bytes := 1, agg := false, zero := [.sc (.int .u8 0)], kind := .int .u8 })]
noncomputable def C_k08 : Cfg := mkC ty_k08 [] [] [] [] [3,6,7,8] [] []
theorem E_k08 : Env1 Go.Proofs.Tryz.prog C_k08 := mkC_ok (by kernel_rfl) trivial (by kernel_rfl)
theorem C_k08_ty : (C_k08).ty = ty_k08 := rfl
theorem C_k08_eqs : (C_k08).eqs = [] := rfl
theorem C_k08_call : (C_k08).call = fun f => (([] : List (Nat × (List DA → Option (List RV)))).lookup f).getD fun _ => none := rfl
theorem C_k08_calls : (C_k08).calls = [] := rfl
theorem C_k08_scal : (C_k08).scal = [] := rfl
theorem C_k08_owns : (C_k08).owns = [] := rfl
theorem C_k08_vars : (C_k08).vars = [3,6,7,8] := rfl
theorem C_k08_ores : (C_k08).ores = [] := rfl
theorem C_k08_flags : (C_k08).flags = [] := rfl
theorem C_k08_pins : (C_k08).pins = [] := rfl
theorem C_k08_inls : (C_k08).inls = [] := rfl
structure L_k08_0 where
  n : Int
  v6 : List Int
  v7 : Int
  v8 : Int
def an_k08_0 : Ann := mkAnn (σ := L_k08_0) (lSkip vUnk <| lSkip vUnk <| lSkip vUnk <| lCons (vOne cI) <| lSkip vUnk <| lSkip vUnk <| lCons (vOne (cSl ceU)) <| lCons (vOne cI) <| lCons (vOne cI) <| lSkip vUnk <| lSkip vUnk <| lSkip vUnk <| lSkip vUnk <| lSkip vUnk <| lSkip vUnk <| lSkip vUnk <| lSkip vUnk <| lSkip vUnk <| lSkip vUnk <|  lNil) ( lNil)
  (fun a b => L_k08_0.mk (a.1) (a.2.1) (a.2.2.1) (a.2.2.2.1)) (fun s => (s.n, s.v6, s.v7, s.v8, ())) (fun s => (())) (fun a b => true) (fun _ _ _ => ⟨rfl, rfl⟩)
set_option maxRecDepth 100000 in
theorem an_k08_0_st (s : an_k08_0.σ) : an_k08_0.st s = (toL 19 (.node (.node (.node (.node (.node (.node (.node (.leaf (.unk)) (.node (.leaf (.unk)) (.leaf (.v (.one (.d (.sc (.int .i64 (L_k08_0.n s))))))))) (.node (.leaf (.unk)) (.node (.leaf (.v (.one (.d (.sl ((L_k08_0.v6 s).map uC)))))) (.leaf (.v (.one (.d (.sc (.int .i64 (L_k08_0.v7 s)))))))))) (.node (.node (.node (.leaf (.v (.one (.d (.sc (.int .i64 (L_k08_0.v8 s))))))) (.leaf (.unk))) (.leaf (.unk))) (.leaf (.unk)))) (.leaf (.unk))) (.leaf (.unk))) (.leaf (.unk))) (.leaf (.unk))), []) := rfl
set_option maxHeartbeats 4000000 in
set_option maxRecDepth 100000 in
theorem an_k08_0_un {β : Type} (n : Int) (p_v6 : List (List DV)) (v7 : Int) (v8 : Int) (f_ : an_k08_0.σ → Option β) : (an_k08_0.un [.unk, .unk, .unk, .v (.one (.d (.sc (.int .i64 n)))), .unk, .unk, .v (.one (.d (.sl p_v6))), .v (.one (.d (.sc (.int .i64 v7)))), .v (.one (.d (.sc (.int .i64 v8)))), .unk, .unk, .unk, .unk, .unk, .unk, .unk, .unk, .unk, .unk] []).bind f_ = (decL uD p_v6).bind fun v6 => f_ (L_k08_0.mk n v6 v7 v8) :=
  (mkAnn_un (σ := L_k08_0) _ _ _ _ _ _ _ _ _ f_).trans (by simp (maxSteps := 10000000) [Option.bind_assoc])
def T_k08 : List (Nat × LoopA) := [(0, .ty an_k08_0)]
set_option maxHeartbeats 20000000 in
set_option maxRecDepth 100000 in
noncomputable def pk_k08 : { F : (List Int) → Option (Int) // CallC Go.Proofs.Tryz.prog 109 (con1 (eL ceU) (fun x0 => (F x0).map (res1 rI).enc)) } :=
  ⟨_, cc1 E_k08 Go.Proofs.Tryz.func109 rfl rfl (T := T_k08) (G := []) (r := (res1 rI)) fun x0 => by
    unfold Wf
    simp (maxSteps := 10000000) (implicitDefEqProofs := false) [-env0, -envI, env0_tree, envI_tree, -evOps, -evOne, -evOp, -evIndexAddr, -evIndex, -evPick, -binV, -evLoad, -evStore, -loadC, -callV, -nilC, -storeC, -toDVs, -toDAs, -resRs, List.lookup, List.replicate, List.range_succ, ty_k08, C_k08_ty, C_k08_eqs, C_k08_call, C_k08_calls, C_k08_scal, C_k08_owns, C_k08_vars, C_k08_ores, C_k08_flags, C_k08_pins, C_k08_inls, T_k08, Go.Proofs.Tryz.f109, an_k08_0_st, an_k08_0_un, iC, uC, bC, sC]
    try rfl⟩
noncomputable def F_k08 : (List Int) → Option (Int) := pk_k08.1
noncomputable def M_k08 : List DA → Option (List RV) := con1 (eL ceU) (fun x0 => (F_k08 x0).map (res1 rI).enc)
theorem cc_k08 : CallC Go.Proofs.Tryz.prog 109 M_k08 := pk_k08.2
theorem en_k07 : Enters Go.Proofs.Tryz.prog 108 := ⟨_, Go.Proofs.Tryz.func108, rfl, rfl⟩
def ty_k07 : List (Nat × TI) := [(114, { size := 1, bytes := 24, agg := false, zero := [.sl []], kind := .slice 5 }), (9, { size := 1, bytes := 16, agg := false, zero := [.sc (.string "".toByteArray)], kind := .str }), (3, { size := 1, bytes := 8, agg := false, zero := [.sc (.int .i64 0)], kind := .int .i64 }), (5, { size := 1, bytes := 1, agg := false, zero := [.sc (.int .u8 0)], kind := .int .u8 })]
noncomputable def C_k07 : Cfg := mkC ty_k07 [] [] [] [(4, [(0, 5, 1)])] [] [] [(4, [true, true, true, true, true, true, true, true, true, true])]
theorem E_k07 : Env1 Go.Proofs.Tryz.prog C_k07 := mkC_ok (by kernel_rfl) trivial (by kernel_rfl)
theorem C_k07_ty : (C_k07).ty = ty_k07 := rfl
theorem C_k07_eqs : (C_k07).eqs = [] := rfl
theorem C_k07_call : (C_k07).call = fun f => (([] : List (Nat × (List DA → Option (List RV)))).lookup f).getD fun _ => none := rfl
theorem C_k07_calls : (C_k07).calls = [] := rfl
theorem C_k07_scal : (C_k07).scal = [] := rfl
theorem C_k07_owns : (C_k07).owns = [(4, [(0, 5, 1)])] := rfl
theorem C_k07_vars : (C_k07).vars = [] := rfl
theorem C_k07_ores : (C_k07).ores = [] := rfl
theorem C_k07_flags : (C_k07).flags = [(4, [true, true, true, true, true, true, true, true, true, true])] := rfl
theorem C_k07_pins : (C_k07).pins = [] := rfl
theorem C_k07_inls : (C_k07).inls = [] := rfl
def T_k07 : List (Nat × LoopA) := []
set_option maxHeartbeats 20000000 in
set_option maxRecDepth 100000 in
noncomputable def pk_k07 : { F : ByteArray → Int → Option ((List Int) × ByteArray × Bool) // CallC Go.Proofs.Tryz.prog 108 (con2 eStr eInt (fun x0 x1 => (F x0 x1).map (res3 (rSl ceU) rS rB).enc)) } :=
  ⟨_, cc2 E_k07 Go.Proofs.Tryz.func108 rfl rfl (T := T_k07) (G := []) (r := (res3 (rSl ceU) rS rB)) fun x0 x1 => by
    unfold Wf
    simp (maxSteps := 10000000) (implicitDefEqProofs := false) [-env0, -envI, env0_tree, envI_tree, -evOps, -evOne, -evOp, -evIndexAddr, -evIndex, -evPick, -binV, -evLoad, -evStore, -loadC, -callV, -nilC, -storeC, -toDVs, -toDAs, -resRs, List.lookup, List.replicate, List.range_succ, ty_k07, C_k07_ty, C_k07_eqs, C_k07_call, C_k07_calls, C_k07_scal, C_k07_owns, C_k07_vars, C_k07_ores, C_k07_flags, C_k07_pins, C_k07_inls, T_k07, Go.Proofs.Tryz.f108, iC, uC, bC, sC]
    try rfl⟩
noncomputable def F_k07 : ByteArray → Int → Option ((List Int) × ByteArray × Bool) := pk_k07.1
noncomputable def M_k07 : List DA → Option (List RV) := con2 eStr eInt (fun x0 x1 => (F_k07 x0 x1).map (res3 (rSl ceU) rS rB).enc)
theorem cc_k07 : CallC Go.Proofs.Tryz.prog 108 M_k07 := pk_k07.2
theorem en_k20 : Enters Go.Proofs.Tryz.prog 67 := ⟨_, Go.Proofs.Tryz.func67, rfl, rfl⟩
def ty_k20 : List (Nat × TI) := [(46, { size := 15, bytes := 176, agg := true, zero := [.sc (.bool false), .sc (.int .i64 0), .sc (.int .i64 0), .sc (.int .i64 0), .sl [], .sl [], .sc (.int .i64 0), .sc (.int .i64 0), .sc (.int .i64 0), .sc (.int .i64 0), .sc (.int .i64 0), .sc (.int .i64 0), .sc (.string "".toByteArray), .sl [], .sc (.int .i64 0)], kind := .struct [(0, 1, false), (1, 1, false), (2, 3, true), (5, 1, false), (6, 9, true)] }), (44, { size := 9, bytes := 96, agg := true, zero := [.sc (.int .i64 0), .sc (.int .i64 0), .sc (.int .i64 0), .sc (.int .i64 0), .sc (.int .i64 0), .sc (.int .i64 0), .sc (.string "".toByteArray), .sl [], .sc (.int .i64 0)], kind := .struct [(0, 1, false), (1, 6, true), (7, 1, false), (8, 1, false)] }), (4, { size := 1, bytes := 1, agg := false, zero := [.sc (.bool false)], kind := .bool }), (3, { size := 1, bytes := 8, agg := false, zero := [.sc (.int .i64 0)], kind := .int .i64 })]
noncomputable def C_k20 : Cfg := mkC ty_k20 [] [] [] [] [] [] []
theorem E_k20 : Env1 Go.Proofs.Tryz.prog C_k20 := mkC_ok (by kernel_rfl) trivial (by kernel_rfl)
theorem C_k20_ty : (C_k20).ty = ty_k20 := rfl
theorem C_k20_eqs : (C_k20).eqs = [] := rfl
theorem C_k20_call : (C_k20).call = fun f => (([] : List (Nat × (List DA → Option (List RV)))).lookup f).getD fun _ => none := rfl
theorem C_k20_calls : (C_k20).calls = [] := rfl
theorem C_k20_scal : (C_k20).scal = [] := rfl
theorem C_k20_owns : (C_k20).owns = [] := rfl
theorem C_k20_vars : (C_k20).vars = [] := rfl
theorem C_k20_ores : (C_k20).ores = [] := rfl
theorem C_k20_flags : (C_k20).flags = [] := rfl
theorem C_k20_pins : (C_k20).pins = [] := rfl
theorem C_k20_inls : (C_k20).inls = [] := rfl
def T_k20 : List (Nat × LoopA) := []
set_option maxHeartbeats 20000000 in
set_option maxRecDepth 100000 in
noncomputable def pk_k20 : { F : Plan → Option (Result) // CallC Go.Proofs.Tryz.prog 67 (con1 (eT cePlan) (fun x0 => (F x0).map (res1 (rAgg ceResult)).enc)) } :=
  ⟨_, cc1 E_k20 Go.Proofs.Tryz.func67 rfl rfl (T := T_k20) (G := []) (r := (res1 (rAgg ceResult))) fun x0 => by
    unfold Wf
    simp (maxSteps := 10000000) (implicitDefEqProofs := false) [-env0, -envI, env0_tree, envI_tree, -evOps, -evOne, -evOp, -evIndexAddr, -evIndex, -evPick, -binV, -evLoad, -evStore, -loadC, -callV, -nilC, -storeC, -toDVs, -toDAs, -resRs, List.lookup, List.replicate, List.range_succ, ty_k20, C_k20_ty, C_k20_eqs, C_k20_call, C_k20_calls, C_k20_scal, C_k20_owns, C_k20_vars, C_k20_ores, C_k20_flags, C_k20_pins, C_k20_inls, T_k20, Go.Proofs.Tryz.f67, iC, uC, bC, sC, Acc.c, Event.c, Plan.c, Result.c, Tx.c]
    try rfl⟩
noncomputable def F_k20 : Plan → Option (Result) := pk_k20.1
noncomputable def M_k20 : List DA → Option (List RV) := con1 (eT cePlan) (fun x0 => (F_k20 x0).map (res1 (rAgg ceResult)).enc)
theorem cc_k20 : CallC Go.Proofs.Tryz.prog 67 M_k20 := pk_k20.2
theorem en_k27 : Enters Go.Proofs.Tryz.prog 80 := ⟨_, Go.Proofs.Tryz.func80, rfl, rfl⟩
def ty_k27 : List (Nat × TI) := [(46, { size := 15, bytes := 176, agg := true, zero := [.sc (.bool false), .sc (.int .i64 0), .sc (.int .i64 0), .sc (.int .i64 0), .sl [], .sl [], .sc (.int .i64 0), .sc (.int .i64 0), .sc (.int .i64 0), .sc (.int .i64 0), .sc (.int .i64 0), .sc (.int .i64 0), .sc (.string "".toByteArray), .sl [], .sc (.int .i64 0)], kind := .struct [(0, 1, false), (1, 1, false), (2, 3, true), (5, 1, false), (6, 9, true)] }), (44, { size := 9, bytes := 96, agg := true, zero := [.sc (.int .i64 0), .sc (.int .i64 0), .sc (.int .i64 0), .sc (.int .i64 0), .sc (.int .i64 0), .sc (.int .i64 0), .sc (.string "".toByteArray), .sl [], .sc (.int .i64 0)], kind := .struct [(0, 1, false), (1, 6, true), (7, 1, false), (8, 1, false)] })]
noncomputable def C_k27 : Cfg := mkC ty_k27 [] [] [] [] [] [] []
theorem E_k27 : Env1 Go.Proofs.Tryz.prog C_k27 := mkC_ok (by kernel_rfl) trivial (by kernel_rfl)
theorem C_k27_ty : (C_k27).ty = ty_k27 := rfl
theorem C_k27_eqs : (C_k27).eqs = [] := rfl
theorem C_k27_call : (C_k27).call = fun f => (([] : List (Nat × (List DA → Option (List RV)))).lookup f).getD fun _ => none := rfl
theorem C_k27_calls : (C_k27).calls = [] := rfl
theorem C_k27_scal : (C_k27).scal = [] := rfl
theorem C_k27_owns : (C_k27).owns = [] := rfl
theorem C_k27_vars : (C_k27).vars = [] := rfl
theorem C_k27_ores : (C_k27).ores = [] := rfl
theorem C_k27_flags : (C_k27).flags = [] := rfl
theorem C_k27_pins : (C_k27).pins = [] := rfl
theorem C_k27_inls : (C_k27).inls = [] := rfl
def T_k27 : List (Nat × LoopA) := []
set_option maxHeartbeats 20000000 in
set_option maxRecDepth 100000 in
noncomputable def pk_k27 : { F : Int → Option (Plan) // CallC Go.Proofs.Tryz.prog 80 (con1 eInt (fun x0 => (F x0).map (res1 (rAgg cePlan)).enc)) } :=
  ⟨_, cc1 E_k27 Go.Proofs.Tryz.func80 rfl rfl (T := T_k27) (G := []) (r := (res1 (rAgg cePlan))) fun x0 => by
    unfold Wf
    simp (maxSteps := 10000000) (implicitDefEqProofs := false) [-env0, -envI, env0_tree, envI_tree, -evOps, -evOne, -evOp, -evIndexAddr, -evIndex, -evPick, -binV, -evLoad, -evStore, -loadC, -callV, -nilC, -storeC, -toDVs, -toDAs, -resRs, List.lookup, List.replicate, List.range_succ, ty_k27, C_k27_ty, C_k27_eqs, C_k27_call, C_k27_calls, C_k27_scal, C_k27_owns, C_k27_vars, C_k27_ores, C_k27_flags, C_k27_pins, C_k27_inls, T_k27, Go.Proofs.Tryz.f80, iC, uC, bC, sC, Acc.c, Event.c, Plan.c, Result.c, Tx.c]
    try rfl⟩
noncomputable def F_k27 : Int → Option (Plan) := pk_k27.1
noncomputable def M_k27 : List DA → Option (List RV) := con1 eInt (fun x0 => (F_k27 x0).map (res1 (rAgg cePlan)).enc)
theorem cc_k27 : CallC Go.Proofs.Tryz.prog 80 M_k27 := pk_k27.2

end Go.Vm

/- What Go functions come to, as Lean functions: each with its contract. -/
set_option linter.unusedVariables false
set_option linter.unusedSimpArgs false
namespace Go.Vm
open Go Go.RowKit

theorem en_k76 : Enters Go.Proofs.Tryz.prog 115 := ⟨_, Go.Proofs.Tryz.func115, rfl, rfl⟩
def ty_k76 : List (Nat × TI) := [(36, { size := 1, bytes := 24, agg := false, zero := [.sl []], kind := .slice 42 }), (42, { size := 6, bytes := 56, agg := true, zero := [.sc (.int .i64 0), .sc (.int .i64 0), .sc (.int .i64 0), .sc (.int .i64 0), .sc (.int .i64 0), .sc (.string "".toByteArray)], kind := .struct [(0, 1, false), (1, 1, false), (2, 1, false), (3, 1, false), (4, 1, false), (5, 1, false)] })]
noncomputable def C_k76 : Cfg := mkC ty_k76 [] [] [] [(2, [(0, 42, 6)])] [] [0] []
theorem E_k76 : Env1 Go.Proofs.Tryz.prog C_k76 := mkC_ok (by kernel_rfl) trivial (by kernel_rfl)
theorem C_k76_ty : (C_k76).ty = ty_k76 := rfl
theorem C_k76_eqs : (C_k76).eqs = [] := rfl
theorem C_k76_call : (C_k76).call = fun f => (([] : List (Nat × (List DA → Option (List RV)))).lookup f).getD fun _ => none := rfl
theorem C_k76_calls : (C_k76).calls = [] := rfl
theorem C_k76_scal : (C_k76).scal = [] := rfl
theorem C_k76_owns : (C_k76).owns = [(2, [(0, 42, 6)])] := rfl
theorem C_k76_vars : (C_k76).vars = [] := rfl
theorem C_k76_ores : (C_k76).ores = [0] := rfl
theorem C_k76_flags : (C_k76).flags = [] := rfl
theorem C_k76_pins : (C_k76).pins = [] := rfl
theorem C_k76_inls : (C_k76).inls = [] := rfl
def T_k76 : List (Nat × LoopA) := []
set_option maxHeartbeats 20000000 in
set_option maxRecDepth 100000 in
noncomputable def pk_k76 : { F : (List Tx) → Option ((List Tx)) // CallC Go.Proofs.Tryz.prog 115 (con1 (eL ceTx) (fun x0 => (F x0).map (res1 (rOwn 42 6 ceTx)).enc)) } :=
  ⟨_, cc1 E_k76 Go.Proofs.Tryz.func115 rfl rfl (T := T_k76) (G := []) (r := (res1 (rOwn 42 6 ceTx))) fun x0 => by
    unfold Wf
    simp (maxSteps := 10000000) (implicitDefEqProofs := false) [-env0, -envI, env0_tree, envI_tree, -evOps, -evOne, -evOp, -evIndexAddr, -evIndex, -evPick, -binV, -evLoad, -evStore, -loadC, -callV, -nilC, -storeC, -toDVs, -toDAs, -resRs, List.lookup, List.replicate, List.range_succ, ty_k76, C_k76_ty, C_k76_eqs, C_k76_call, C_k76_calls, C_k76_scal, C_k76_owns, C_k76_vars, C_k76_ores, C_k76_flags, C_k76_pins, C_k76_inls, T_k76, Go.Proofs.Tryz.f115, iC, uC, bC, sC, Tx.c]
    try rfl⟩
noncomputable def F_k76 : (List Tx) → Option ((List Tx)) := pk_k76.1
noncomputable def M_k76 : List DA → Option (List RV) := con1 (eL ceTx) (fun x0 => (F_k76 x0).map (res1 (rOwn 42 6 ceTx)).enc)
theorem cc_k76 : CallC Go.Proofs.Tryz.prog 115 M_k76 := pk_k76.2
theorem en_k33 : Enters Go.Proofs.Tryz.prog 118 := ⟨_, Go.Proofs.Tryz.func118, rfl, rfl⟩
def ty_k33 : List (Nat × TI) := [(42, { size := 6, bytes := 56, agg := true, zero := [.sc (.int .i64 0), .sc (.int .i64 0), .sc (.int .i64 0), .sc (.int .i64 0), .sc (.int .i64 0), .sc (.string "".toByteArray)], kind := .struct [(0, 1, false), (1, 1, false), (2, 1, false), (3, 1, false), (4, 1, false), (5, 1, false)] }), (3, { size := 1, bytes := 8, agg := false, zero := [.sc (.int .i64 0)], kind := .int .i64 })]
noncomputable def C_k33 : Cfg := mkC ty_k33 [] [] [] [] [3] [] []
theorem E_k33 : Env1 Go.Proofs.Tryz.prog C_k33 := mkC_ok (by kernel_rfl) trivial (by kernel_rfl)
theorem C_k33_ty : (C_k33).ty = ty_k33 := rfl
theorem C_k33_eqs : (C_k33).eqs = [] := rfl
theorem C_k33_call : (C_k33).call = fun f => (([] : List (Nat × (List DA → Option (List RV)))).lookup f).getD fun _ => none := rfl
theorem C_k33_calls : (C_k33).calls = [] := rfl
theorem C_k33_scal : (C_k33).scal = [] := rfl
theorem C_k33_owns : (C_k33).owns = [] := rfl
theorem C_k33_vars : (C_k33).vars = [3] := rfl
theorem C_k33_ores : (C_k33).ores = [] := rfl
theorem C_k33_flags : (C_k33).flags = [] := rfl
theorem C_k33_pins : (C_k33).pins = [] := rfl
theorem C_k33_inls : (C_k33).inls = [] := rfl
def T_k33 : List (Nat × LoopA) := []
noncomputable def I_k33 : List V1 → Objs → Option (TV × Objs) := Wi C_k33 T_k33 [] Go.Proofs.Tryz.f118
theorem ic_k33 : InlC Go.Proofs.Tryz.prog 118 I_k33 := inlC_of_W E_k33 Go.Proofs.Tryz.func118 rfl rfl
theorem en_k7b : Enters Go.Proofs.Tryz.prog 126 := ⟨_, Go.Proofs.Tryz.func126, rfl, rfl⟩
def ty_k7b : List (Nat × TI) := [(36, { size := 1, bytes := 24, agg := false, zero := [.sl []], kind := .slice 42 }), (3, { size := 1, bytes := 8, agg := false, zero := [.sc (.int .i64 0)], kind := .int .i64 }), (42, { size := 6, bytes := 56, agg := true, zero := [.sc (.int .i64 0), .sc (.int .i64 0), .sc (.int .i64 0), .sc (.int .i64 0), .sc (.int .i64 0), .sc (.string "".toByteArray)], kind := .struct [(0, 1, false), (1, 1, false), (2, 1, false), (3, 1, false), (4, 1, false), (5, 1, false)] })]
noncomputable def C0_k7b : Cfg := mkC ty_k7b [] [] [] [] [0,1,4,7,8] [] []
noncomputable def C_k7b : Cfg := mkI C0_k7b [(118, I_k33)]
theorem E0_k7b : Env1 Go.Proofs.Tryz.prog C0_k7b := mkC_ok (by kernel_rfl) trivial (by kernel_rfl)
theorem E_k7b : Env1 Go.Proofs.Tryz.prog C_k7b := mkI_ok E0_k7b (⟨⟨en_k33, ic_k33⟩, trivial⟩)
theorem C_k7b_ty : (C_k7b).ty = ty_k7b := rfl
theorem C_k7b_eqs : (C_k7b).eqs = [] := rfl
theorem C_k7b_call : (C_k7b).call = fun f => (([] : List (Nat × (List DA → Option (List RV)))).lookup f).getD fun _ => none := rfl
theorem C_k7b_calls : (C_k7b).calls = [] := rfl
theorem C_k7b_scal : (C_k7b).scal = [] := rfl
theorem C_k7b_owns : (C_k7b).owns = [] := rfl
theorem C_k7b_vars : (C_k7b).vars = [0,1,4,7,8] := rfl
theorem C_k7b_ores : (C_k7b).ores = [] := rfl
theorem C_k7b_flags : (C_k7b).flags = [] := rfl
theorem C_k7b_pins : (C_k7b).pins = [] := rfl
theorem C_k7b_inls : (C_k7b).inls = [118] := rfl
theorem C_k7b_inl : (C_k7b).inl = fun f => (([(118, I_k33)] : List (Nat × (List V1 → Objs → Option (TV × Objs)))).lookup f).getD fun _ _ => none := rfl
structure L_k7b_0 where
  v4 : Int
  v7 : Int
  v8 : Int
  o0 : Acc
  o1 : Int
  sender : Int
  base : Int
  s_ : List Tx
  o4 : List Tx
def an_k7b_0 : Ann := mkAnn (σ := L_k7b_0) (lCons (vOne (cOwn 3)) <| lSkip (vOne (cClo 118 [] [(1, 0)])) <| lSkip vUnk <| lSkip vUnk <| lCons (vOne cI) <| lSkip vUnk <| lSkip vUnk <| lCons (vOne cI) <| lCons (vOne cI) <| lSkip vUnk <| lSkip vUnk <| lSkip vUnk <| lSkip vUnk <| lSkip vUnk <| lSkip vUnk <| lSkip vUnk <| lSkip vUnk <| lSkip vUnk <| lSkip vUnk <|  lNil) (lCons (oBox 38 (cStr ceAcc)) <| lCons (oBox 3 (lCons cI <|  lNil)) <| lCons (oBox 38 (lCons cI <| lCons cI <| lSkip cNil <|  lNil)) <| lCons (oArr 42 6 ceTx) <| lCons (oArr 42 6 ceTx) <|  lNil)
  (fun a b => L_k7b_0.mk (a.2.1) (a.2.2.1) (a.2.2.2.1) (b.1) (b.2.1.1) (b.2.2.1.1) (b.2.2.1.2.1) (b.2.2.2.1) (b.2.2.2.2.1)) (fun s => (s.s_.length, s.v4, s.v7, s.v8, ())) (fun s => (s.o0, (s.o1, ()), (s.sender, s.base, ()), s.s_, s.o4, ())) (fun a b => decide (a.1 = (b.2.2.2.1).length)) (by rintro ⟨a0, a1, a2, a3, _⟩ ⟨b0, ⟨c1_0, _⟩, ⟨c2_0, c2_1, _⟩, b3, b4, _⟩ h; simp at h; simp [h])
set_option maxRecDepth 100000 in
theorem an_k7b_0_st (s : an_k7b_0.σ) : an_k7b_0.st s = (toL 19 (.node (.node (.node (.node (.node (.node (.node (.node (.leaf (.v (.one (.own 3 (L_k7b_0.s_ s).length)))) (.leaf (.v (.one (.clo 118 [] [(1, 0)]))))) (.leaf (.unk))) (.node (.node (.leaf (.v (.one (.d (.sc (.int .i64 (L_k7b_0.v4 s))))))) (.leaf (.unk))) (.node (.leaf (.unk)) (.leaf (.v (.one (.d (.sc (.int .i64 (L_k7b_0.v7 s)))))))))) (.node (.node (.node (.leaf (.v (.one (.d (.sc (.int .i64 (L_k7b_0.v8 s))))))) (.leaf (.unk))) (.leaf (.unk))) (.leaf (.unk)))) (.leaf (.unk))) (.leaf (.unk))) (.leaf (.unk))) (.leaf (.unk))), [.box 38 (ddv (Acc.c (L_k7b_0.o0 s))), .box 3 [.d (.sc (.int .i64 (L_k7b_0.o1 s)))], .box 38 [.d (.sc (.int .i64 (L_k7b_0.sender s))), .d (.sc (.int .i64 (L_k7b_0.base s))), .nil], .arr 42 6 ((L_k7b_0.s_ s).map Tx.c), .arr 42 6 ((L_k7b_0.o4 s).map Tx.c)]) := rfl
set_option maxHeartbeats 4000000 in
set_option maxRecDepth 100000 in
theorem an_k7b_0_un {β : Type} (m1_s_ : Nat) (v4 : Int) (v7 : Int) (v8 : Int) (p_o0 : List CV) (o1 : Int) (sender : Int) (base : Int) (p_s_ : List (List DV)) (p_o4 : List (List DV)) (f_ : an_k7b_0.σ → Option β) : (an_k7b_0.un [.v (.one (.own 3 m1_s_)), .v (.one (.clo 118 [] [(1, 0)])), .unk, .unk, .v (.one (.d (.sc (.int .i64 v4)))), .unk, .unk, .v (.one (.d (.sc (.int .i64 v7)))), .v (.one (.d (.sc (.int .i64 v8)))), .unk, .unk, .unk, .unk, .unk, .unk, .unk, .unk, .unk, .unk] [.box 38 p_o0, .box 3 [.d (.sc (.int .i64 o1))], .box 38 [.d (.sc (.int .i64 sender)), .d (.sc (.int .i64 base)), .nil], .arr 42 6 p_s_, .arr 42 6 p_o4]).bind f_ = ((allD p_o0).bind dAcc).bind fun o0 => (decL dTx p_s_).bind fun s_ => (decL dTx p_o4).bind fun o4 => (if m1_s_ = s_.length then f_ (L_k7b_0.mk v4 v7 v8 o0 o1 sender base s_ o4) else none) :=
  (mkAnn_un (σ := L_k7b_0) _ _ _ _ _ _ _ _ _ f_).trans (by simp (maxSteps := 10000000) [Option.bind_assoc, bind_ite])
def T_k7b : List (Nat × LoopA) := [(0, .tr an_k7b_0)]
noncomputable def I_k7b : List V1 → Objs → Option (TV × Objs) := Wi C_k7b T_k7b [] Go.Proofs.Tryz.f126
theorem ic_k7b : InlC Go.Proofs.Tryz.prog 126 I_k7b := inlC_of_W E_k7b Go.Proofs.Tryz.func126 rfl rfl
theorem en_k78 : Enters Go.Proofs.Tryz.prog 117 := ⟨_, Go.Proofs.Tryz.func117, rfl, rfl⟩
def ty_k78 : List (Nat × TI) := [(36, { size := 1, bytes := 24, agg := false, zero := [.sl []], kind := .slice 42 }), (106, { size := 1, bytes := 8, agg := false, zero := [.sc .nilFunc], kind := .plain }), (3, { size := 1, bytes := 8, agg := false, zero := [.sc (.int .i64 0)], kind := .int .i64 }), (42, { size := 6, bytes := 56, agg := true, zero := [.sc (.int .i64 0), .sc (.int .i64 0), .sc (.int .i64 0), .sc (.int .i64 0), .sc (.int .i64 0), .sc (.string "".toByteArray)], kind := .struct [(0, 1, false), (1, 1, false), (2, 1, false), (3, 1, false), (4, 1, false), (5, 1, false)] })]
noncomputable def C0_k78 : Cfg := mkC ty_k78 [] [] [126] [(4, [(0, 42, 6)])] [0,1,4,5,6] [] []
noncomputable def C_k78 : Cfg := mkI C0_k78 [(126, I_k7b), (118, I_k33)]
theorem E0_k78 : Env1 Go.Proofs.Tryz.prog C0_k78 := mkC_ok (by kernel_rfl) trivial (by kernel_rfl)
theorem E_k78 : Env1 Go.Proofs.Tryz.prog C_k78 := mkI_ok E0_k78 (⟨⟨en_k7b, ic_k7b⟩, ⟨⟨en_k33, ic_k33⟩, trivial⟩⟩)
theorem C_k78_ty : (C_k78).ty = ty_k78 := rfl
theorem C_k78_eqs : (C_k78).eqs = [] := rfl
theorem C_k78_call : (C_k78).call = fun f => (([] : List (Nat × (List DA → Option (List RV)))).lookup f).getD fun _ => none := rfl
theorem C_k78_calls : (C_k78).calls = [] := rfl
theorem C_k78_scal : (C_k78).scal = [126] := rfl
theorem C_k78_owns : (C_k78).owns = [(4, [(0, 42, 6)])] := rfl
theorem C_k78_vars : (C_k78).vars = [0,1,4,5,6] := rfl
theorem C_k78_ores : (C_k78).ores = [] := rfl
theorem C_k78_flags : (C_k78).flags = [] := rfl
theorem C_k78_pins : (C_k78).pins = [] := rfl
theorem C_k78_inls : (C_k78).inls = [126, 118] := rfl
theorem C_k78_inl : (C_k78).inl = fun f => (([(126, I_k7b), (118, I_k33)] : List (Nat × (List V1 → Objs → Option (TV × Objs)))).lookup f).getD fun _ _ => none := rfl
structure L_k78_0 where
  i : Int
  j : Int
  o0 : Acc
  o1 : Int
  sender : Int
  base : Int
  s_ : List Tx
  v4 : List Tx
def an_k78_0 : Ann := mkAnn (σ := L_k78_0) (lCons (vOne (cOwn 3)) <| lSkip (vOne (cClo 118 [] [(1, 0)])) <| lSkip vUnk <| lSkip vUnk <| lCons (vOne (cOwn 4)) <| lCons (vOne cI) <| lCons (vOne cI) <| lSkip vUnk <| lSkip vUnk <| lSkip vUnk <| lSkip vUnk <| lSkip vUnk <| lSkip vUnk <| lSkip vUnk <| lSkip vUnk <| lSkip vUnk <| lSkip vUnk <| lSkip vUnk <| lSkip vUnk <| lSkip vUnk <| lSkip vUnk <| lSkip vUnk <| lSkip vUnk <| lSkip vUnk <| lSkip vUnk <| lSkip vUnk <| lSkip vUnk <| lSkip vUnk <| lSkip vUnk <| lSkip vUnk <| lSkip vUnk <| lSkip vUnk <| lSkip vUnk <| lSkip vUnk <| lSkip vUnk <| lSkip vUnk <| lSkip vUnk <| lSkip vUnk <| lSkip vUnk <| lSkip vUnk <| lSkip vUnk <| lSkip vUnk <|  lNil) (lCons (oBox 38 (cStr ceAcc)) <| lCons (oBox 3 (lCons cI <|  lNil)) <| lCons (oBox 38 (lCons cI <| lCons cI <| lSkip cNil <|  lNil)) <| lCons (oArr 42 6 ceTx) <| lCons (oArr 42 6 ceTx) <|  lNil)
  (fun a b => L_k78_0.mk (a.2.2.1) (a.2.2.2.1) (b.1) (b.2.1.1) (b.2.2.1.1) (b.2.2.1.2.1) (b.2.2.2.1) (b.2.2.2.2.1)) (fun s => (s.s_.length, s.v4.length, s.i, s.j, ())) (fun s => (s.o0, (s.o1, ()), (s.sender, s.base, ()), s.s_, s.v4, ())) (fun a b => decide (a.1 = (b.2.2.2.1).length) && decide (a.2.1 = (b.2.2.2.2.1).length)) (by rintro ⟨a0, a1, a2, a3, _⟩ ⟨b0, ⟨c1_0, _⟩, ⟨c2_0, c2_1, _⟩, b3, b4, _⟩ h; simp at h; simp [h])
set_option maxRecDepth 100000 in
theorem an_k78_0_st (s : an_k78_0.σ) : an_k78_0.st s = (toL 42 (.node (.node (.node (.node (.node (.node (.node (.node (.leaf (.v (.one (.own 3 (L_k78_0.s_ s).length)))) (.leaf (.v (.one (.clo 118 [] [(1, 0)]))))) (.leaf (.unk))) (.node (.node (.leaf (.v (.one (.own 4 (L_k78_0.v4 s).length)))) (.leaf (.v (.one (.d (.sc (.int .i64 (L_k78_0.i s)))))))) (.node (.leaf (.v (.one (.d (.sc (.int .i64 (L_k78_0.j s))))))) (.leaf (.unk))))) (.leaf (.unk))) (.leaf (.unk))) (.leaf (.unk))) (.leaf (.unk))) (.leaf (.unk))), [.box 38 (ddv (Acc.c (L_k78_0.o0 s))), .box 3 [.d (.sc (.int .i64 (L_k78_0.o1 s)))], .box 38 [.d (.sc (.int .i64 (L_k78_0.sender s))), .d (.sc (.int .i64 (L_k78_0.base s))), .nil], .arr 42 6 ((L_k78_0.s_ s).map Tx.c), .arr 42 6 ((L_k78_0.v4 s).map Tx.c)]) := rfl
set_option maxHeartbeats 4000000 in
set_option maxRecDepth 100000 in
theorem an_k78_0_un {β : Type} (m1_s_ : Nat) (m2_v4 : Nat) (i : Int) (j : Int) (p_o0 : List CV) (o1 : Int) (sender : Int) (base : Int) (p_s_ : List (List DV)) (p_v4 : List (List DV)) (f_ : an_k78_0.σ → Option β) : (an_k78_0.un [.v (.one (.own 3 m1_s_)), .v (.one (.clo 118 [] [(1, 0)])), .unk, .unk, .v (.one (.own 4 m2_v4)), .v (.one (.d (.sc (.int .i64 i)))), .v (.one (.d (.sc (.int .i64 j)))), .unk, .unk, .unk, .unk, .unk, .unk, .unk, .unk, .unk, .unk, .unk, .unk, .unk, .unk, .unk, .unk, .unk, .unk, .unk, .unk, .unk, .unk, .unk, .unk, .unk, .unk, .unk, .unk, .unk, .unk, .unk, .unk, .unk, .unk, .unk] [.box 38 p_o0, .box 3 [.d (.sc (.int .i64 o1))], .box 38 [.d (.sc (.int .i64 sender)), .d (.sc (.int .i64 base)), .nil], .arr 42 6 p_s_, .arr 42 6 p_v4]).bind f_ = ((allD p_o0).bind dAcc).bind fun o0 => (decL dTx p_s_).bind fun s_ => (decL dTx p_v4).bind fun v4 => (if m1_s_ = s_.length ∧ m2_v4 = v4.length then f_ (L_k78_0.mk i j o0 o1 sender base s_ v4) else none) :=
  (mkAnn_un (σ := L_k78_0) _ _ _ _ _ _ _ _ _ f_).trans (by simp (maxSteps := 10000000) [Option.bind_assoc, bind_ite])
def T_k78 : List (Nat × LoopA) := [(0, .tr an_k78_0)]
noncomputable def I_k78 : List V1 → Objs → Option (TV × Objs) := Wi C_k78 T_k78 [] Go.Proofs.Tryz.f117
theorem ic_k78 : InlC Go.Proofs.Tryz.prog 117 I_k78 := inlC_of_W E_k78 Go.Proofs.Tryz.func117 rfl rfl
theorem en_k32 : Enters Go.Proofs.Tryz.prog 101 := ⟨_, Go.Proofs.Tryz.func101, rfl, rfl⟩
def ty_k32 : List (Nat × TI) := [(38, { size := 3, bytes := 40, agg := true, zero := [.sc (.int .i64 0), .sc (.int .i64 0), .sl []], kind := .struct [(0, 1, false), (1, 1, false), (2, 1, false)] }), (3, { size := 1, bytes := 8, agg := false, zero := [.sc (.int .i64 0)], kind := .int .i64 }), (36, { size := 1, bytes := 24, agg := false, zero := [.sl []], kind := .slice 42 }), (106, { size := 1, bytes := 8, agg := false, zero := [.sc .nilFunc], kind := .plain }), (42, { size := 6, bytes := 56, agg := true, zero := [.sc (.int .i64 0), .sc (.int .i64 0), .sc (.int .i64 0), .sc (.int .i64 0), .sc (.int .i64 0), .sc (.string "".toByteArray)], kind := .struct [(0, 1, false), (1, 1, false), (2, 1, false), (3, 1, false), (4, 1, false), (5, 1, false)] })]
noncomputable def C0_k32 : Cfg := mkC ty_k32 [] [(115, M_k76)] [] [] [] [] []
noncomputable def C_k32 : Cfg := mkI C0_k32 [(117, I_k78)]
theorem E0_k32 : Env1 Go.Proofs.Tryz.prog C0_k32 := mkC_ok (by kernel_rfl) (⟨⟨en_k76, cc_k76⟩, trivial⟩) (by kernel_rfl)
theorem E_k32 : Env1 Go.Proofs.Tryz.prog C_k32 := mkI_ok E0_k32 (⟨⟨en_k78, ic_k78⟩, trivial⟩)
theorem C_k32_ty : (C_k32).ty = ty_k32 := rfl
theorem C_k32_eqs : (C_k32).eqs = [] := rfl
theorem C_k32_call : (C_k32).call = fun f => (([(115, M_k76)] : List (Nat × (List DA → Option (List RV)))).lookup f).getD fun _ => none := rfl
theorem C_k32_calls : (C_k32).calls = [115] := rfl
theorem C_k32_scal : (C_k32).scal = [] := rfl
theorem C_k32_owns : (C_k32).owns = [] := rfl
theorem C_k32_vars : (C_k32).vars = [] := rfl
theorem C_k32_ores : (C_k32).ores = [] := rfl
theorem C_k32_flags : (C_k32).flags = [] := rfl
theorem C_k32_pins : (C_k32).pins = [] := rfl
theorem C_k32_inls : (C_k32).inls = [117] := rfl
theorem C_k32_inl : (C_k32).inl = fun f => (([(117, I_k78)] : List (Nat × (List V1 → Objs → Option (TV × Objs)))).lookup f).getD fun _ _ => none := rfl
def T_k32 : List (Nat × LoopA) := []
set_option maxHeartbeats 20000000 in
set_option maxRecDepth 100000 in
noncomputable def pk_k32 : { F : Acc → Int → Option (Acc) // CallC Go.Proofs.Tryz.prog 101 (con2 (eT ceAcc) eInt (fun x0 x1 => (F x0 x1).map (res1 (rAgg ceAcc)).enc)) } :=
  ⟨_, cc2 E_k32 Go.Proofs.Tryz.func101 rfl rfl (T := T_k32) (G := []) (r := (res1 (rAgg ceAcc))) fun x0 x1 => by
    unfold Wf
    simp (maxSteps := 10000000) (implicitDefEqProofs := false) [-env0, -envI, env0_tree, envI_tree, -evOps, -evOne, -evOp, -evIndexAddr, -evIndex, -evPick, -binV, -evLoad, -evStore, -loadC, -callV, -nilC, -storeC, -toDVs, -toDAs, -resRs, List.lookup, List.replicate, List.range_succ, ty_k32, C_k32_ty, C_k32_eqs, C_k32_call, C_k32_calls, C_k32_scal, C_k32_owns, C_k32_vars, C_k32_ores, C_k32_flags, C_k32_pins, C_k32_inls, C_k32_inl, T_k32, Go.Proofs.Tryz.f101, M_k76, iC, uC, bC, sC, Acc.c, Tx.c, ty_k78, C_k78_ty, C_k78_eqs, C_k78_call, C_k78_calls, C_k78_scal, C_k78_owns, C_k78_vars, C_k78_ores, C_k78_flags, C_k78_pins, C_k78_inls, C_k78_inl, T_k78, Go.Proofs.Tryz.f117, an_k78_0_st, an_k78_0_un, ty_k7b, C_k7b_ty, C_k7b_eqs, C_k7b_call, C_k7b_calls, C_k7b_scal, C_k7b_owns, C_k7b_vars, C_k7b_ores, C_k7b_flags, C_k7b_pins, C_k7b_inls, C_k7b_inl, T_k7b, Go.Proofs.Tryz.f126, an_k7b_0_st, an_k7b_0_un, ty_k33, C_k33_ty, C_k33_eqs, C_k33_call, C_k33_calls, C_k33_scal, C_k33_owns, C_k33_vars, C_k33_ores, C_k33_flags, C_k33_pins, C_k33_inls, T_k33, Go.Proofs.Tryz.f118, I_k33, Wi, mkI, I_k7b, I_k78, mkI]
    try rfl⟩
noncomputable def F_k32 : Acc → Int → Option (Acc) := pk_k32.1
noncomputable def M_k32 : List DA → Option (List RV) := con2 (eT ceAcc) eInt (fun x0 x1 => (F_k32 x0 x1).map (res1 (rAgg ceAcc)).enc)
theorem cc_k32 : CallC Go.Proofs.Tryz.prog 101 M_k32 := pk_k32.2

end Go.Vm

/- What Go functions come to, as Lean functions: each with its contract. -/
set_option linter.unusedVariables false
set_option linter.unusedSimpArgs false
namespace Go.Vm
open Go Go.RowKit

theorem en_k5b : Enters Go.Proofs.Tryz.prog 53 := ⟨_, Go.Proofs.Tryz.func53, rfl, rfl⟩
def ty_k5b : List (Nat × TI) := [(39, { size := 1, bytes := 24, agg := false, zero := [.sl []], kind := .slice 126 }), (3, { size := 1, bytes := 8, agg := false, zero := [.sc (.int .i64 0)], kind := .int .i64 }), (126, { size := 8, bytes := 72, agg := true, zero := [.sc (.int .i64 0), .sc (.int .i64 0), .sc (.int .i64 0), .sc (.int .i64 0), .sc (.int .i64 0), .sc (.int .i64 0), .sc (.string "".toByteArray), .sc (.int .i64 0)], kind := .struct [(0, 1, false), (1, 6, true), (7, 1, false)] })]
noncomputable def C_k5b : Cfg := mkC ty_k5b [(126, [.i .i64, .i .i64, .i .i64, .i .i64, .i .i64, .i .i64, .s, .i .i64])] [] [] [] [0,1,5] [] [(6, [true, true, true, true, true, true, true, true, true])]
theorem E_k5b : Env1 Go.Proofs.Tryz.prog C_k5b := mkC_ok (by kernel_rfl) trivial (by kernel_rfl)
theorem C_k5b_ty : (C_k5b).ty = ty_k5b := rfl
theorem C_k5b_eqs : (C_k5b).eqs = [(126, [.i .i64, .i .i64, .i .i64, .i .i64, .i .i64, .i .i64, .s, .i .i64])] := rfl
theorem C_k5b_call : (C_k5b).call = fun f => (([] : List (Nat × (List DA → Option (List RV)))).lookup f).getD fun _ => none := rfl
theorem C_k5b_calls : (C_k5b).calls = [] := rfl
theorem C_k5b_scal : (C_k5b).scal = [] := rfl
theorem C_k5b_owns : (C_k5b).owns = [] := rfl
theorem C_k5b_vars : (C_k5b).vars = [0,1,5] := rfl
theorem C_k5b_ores : (C_k5b).ores = [] := rfl
theorem C_k5b_flags : (C_k5b).flags = [(6, [true, true, true, true, true, true, true, true, true])] := rfl
theorem C_k5b_pins : (C_k5b).pins = [] := rfl
theorem C_k5b_inls : (C_k5b).inls = [] := rfl
structure L_k5b_0 where
  a_ : List Event
  b_ : List Event
  i : Int
def an_k5b_0 : Ann := mkAnn (σ := L_k5b_0) (lCons (vOne (cSl ceEvent)) <| lCons (vOne (cSl ceEvent)) <| lSkip vUnk <| lSkip vUnk <| lSkip vUnk <| lCons (vOne cI) <| lSkip vUnk <| lSkip vUnk <| lSkip vUnk <| lSkip vUnk <| lSkip vUnk <| lSkip vUnk <| lSkip vUnk <| lSkip vUnk <| lSkip vUnk <| lSkip vUnk <| lSkip vUnk <| lSkip vUnk <| lSkip vUnk <| lSkip vUnk <| lSkip vUnk <| lSkip vUnk <| lSkip vUnk <| lSkip vUnk <| lSkip vUnk <| lSkip vUnk <|  lNil) ( lNil)
  (fun a b => L_k5b_0.mk (a.1) (a.2.1) (a.2.2.1)) (fun s => (s.a_, s.b_, s.i, ())) (fun s => (())) (fun a b => true) (fun _ _ _ => ⟨rfl, rfl⟩)
set_option maxRecDepth 100000 in
theorem an_k5b_0_st (s : an_k5b_0.σ) : an_k5b_0.st s = (toL 26 (.node (.node (.node (.node (.node (.node (.node (.node (.leaf (.v (.one (.d (.sl ((L_k5b_0.a_ s).map Event.c)))))) (.leaf (.v (.one (.d (.sl ((L_k5b_0.b_ s).map Event.c))))))) (.leaf (.unk))) (.node (.node (.leaf (.unk)) (.leaf (.v (.one (.d (.sc (.int .i64 (L_k5b_0.i s)))))))) (.leaf (.unk)))) (.leaf (.unk))) (.leaf (.unk))) (.leaf (.unk))) (.leaf (.unk))) (.leaf (.unk))), []) := rfl
set_option maxHeartbeats 4000000 in
set_option maxRecDepth 100000 in
theorem an_k5b_0_un {β : Type} (p_a_ : List (List DV)) (p_b_ : List (List DV)) (i : Int) (f_ : an_k5b_0.σ → Option β) : (an_k5b_0.un [.v (.one (.d (.sl p_a_))), .v (.one (.d (.sl p_b_))), .unk, .unk, .unk, .v (.one (.d (.sc (.int .i64 i)))), .unk, .unk, .unk, .unk, .unk, .unk, .unk, .unk, .unk, .unk, .unk, .unk, .unk, .unk, .unk, .unk, .unk, .unk, .unk, .unk] []).bind f_ = (decL dEvent p_a_).bind fun a_ => (decL dEvent p_b_).bind fun b_ => f_ (L_k5b_0.mk a_ b_ i) :=
  (mkAnn_un (σ := L_k5b_0) _ _ _ _ _ _ _ _ _ f_).trans (by simp (maxSteps := 10000000) [Option.bind_assoc])
def T_k5b : List (Nat × LoopA) := [(0, .ty an_k5b_0)]
set_option maxHeartbeats 20000000 in
set_option maxRecDepth 100000 in
noncomputable def pk_k5b : { F : (List Event) → (List Event) → Option (Bool) // CallC Go.Proofs.Tryz.prog 53 (con2 (eL ceEvent) (eL ceEvent) (fun x0 x1 => (F x0 x1).map (res1 rB).enc)) } :=
  ⟨_, cc2 E_k5b Go.Proofs.Tryz.func53 rfl rfl (T := T_k5b) (G := []) (r := (res1 rB)) fun x0 x1 => by
    unfold Wf
    simp (maxSteps := 10000000) (implicitDefEqProofs := false) [-env0, -envI, env0_tree, envI_tree, -evOps, -evOne, -evOp, -evIndexAddr, -evIndex, -evPick, -binV, -evLoad, -evStore, -loadC, -callV, -nilC, -storeC, -toDVs, -toDAs, -resRs, List.lookup, List.replicate, List.range_succ, ty_k5b, C_k5b_ty, C_k5b_eqs, C_k5b_call, C_k5b_calls, C_k5b_scal, C_k5b_owns, C_k5b_vars, C_k5b_ores, C_k5b_flags, C_k5b_pins, C_k5b_inls, T_k5b, Go.Proofs.Tryz.f53, an_k5b_0_st, an_k5b_0_un, iC, uC, bC, sC, Event.c, Tx.c]
    try rfl⟩
noncomputable def F_k5b : (List Event) → (List Event) → Option (Bool) := pk_k5b.1
noncomputable def M_k5b : List DA → Option (List RV) := con2 (eL ceEvent) (eL ceEvent) (fun x0 x1 => (F_k5b x0 x1).map (res1 rB).enc)
theorem cc_k5b : CallC Go.Proofs.Tryz.prog 53 M_k5b := pk_k5b.2
theorem en_k05 : Enters Go.Proofs.Tryz.prog 94 := ⟨_, Go.Proofs.Tryz.func94, rfl, rfl⟩
def ty_k05 : List (Nat × TI) := [(9, { size := 1, bytes := 16, agg := false, zero := [.sc (.string "".toByteArray)], kind := .str }), (3, { size := 1, bytes := 8, agg := false, zero := [.sc (.int .i64 0)], kind := .int .i64 }), (114, { size := 1, bytes := 24, agg := false, zero := [.sl []], kind := .slice 5 }), (5, { size := 1, bytes := 1, agg := false, zero := [.sc (.int .u8 0)], kind := .int .u8 })]
noncomputable def C_k05 : Cfg := mkC ty_k05 [] [(108, M_k07), (109, M_k08)] [109] [] [] [] []
theorem E_k05 : Env1 Go.Proofs.Tryz.prog C_k05 := mkC_ok (by kernel_rfl) (⟨⟨en_k07, cc_k07⟩, ⟨⟨en_k08, cc_k08⟩, trivial⟩⟩) (by kernel_rfl)
theorem C_k05_ty : (C_k05).ty = ty_k05 := rfl
theorem C_k05_eqs : (C_k05).eqs = [] := rfl
theorem C_k05_call : (C_k05).call = fun f => (([(108, M_k07), (109, M_k08)] : List (Nat × (List DA → Option (List RV)))).lookup f).getD fun _ => none := rfl
theorem C_k05_calls : (C_k05).calls = [108, 109] := rfl
theorem C_k05_scal : (C_k05).scal = [109] := rfl
theorem C_k05_owns : (C_k05).owns = [] := rfl
theorem C_k05_vars : (C_k05).vars = [] := rfl
theorem C_k05_ores : (C_k05).ores = [] := rfl
theorem C_k05_flags : (C_k05).flags = [] := rfl
theorem C_k05_pins : (C_k05).pins = [] := rfl
theorem C_k05_inls : (C_k05).inls = [] := rfl
def T_k05 : List (Nat × LoopA) := []
set_option maxHeartbeats 20000000 in
set_option maxRecDepth 100000 in
noncomputable def pk_k05 : { F : ByteArray → Int → Option (ByteArray × ByteArray × Bool) // CallC Go.Proofs.Tryz.prog 94 (con2 eStr eInt (fun x0 x1 => (F x0 x1).map (res3 rS rS rB).enc)) } :=
  ⟨_, cc2 E_k05 Go.Proofs.Tryz.func94 rfl rfl (T := T_k05) (G := []) (r := (res3 rS rS rB)) fun x0 x1 => by
    unfold Wf
    simp (maxSteps := 10000000) (implicitDefEqProofs := false) [-env0, -envI, env0_tree, envI_tree, -evOps, -evOne, -evOp, -evIndexAddr, -evIndex, -evPick, -binV, -evLoad, -evStore, -loadC, -callV, -nilC, -storeC, -toDVs, -toDAs, -resRs, List.lookup, List.replicate, List.range_succ, ty_k05, C_k05_ty, C_k05_eqs, C_k05_call, C_k05_calls, C_k05_scal, C_k05_owns, C_k05_vars, C_k05_ores, C_k05_flags, C_k05_pins, C_k05_inls, T_k05, Go.Proofs.Tryz.f94, M_k07, M_k08, iC, uC, bC, sC]
    try rfl⟩
noncomputable def F_k05 : ByteArray → Int → Option (ByteArray × ByteArray × Bool) := pk_k05.1
noncomputable def M_k05 : List DA → Option (List RV) := con2 eStr eInt (fun x0 x1 => (F_k05 x0 x1).map (res3 rS rS rB).enc)
theorem cc_k05 : CallC Go.Proofs.Tryz.prog 94 M_k05 := pk_k05.2
theorem en_k80 : Enters Go.Proofs.Tryz.prog 121 := ⟨_, Go.Proofs.Tryz.func121, rfl, rfl⟩
def ty_k80 : List (Nat × TI) := [(9, { size := 1, bytes := 16, agg := false, zero := [.sc (.string "".toByteArray)], kind := .str }), (3, { size := 1, bytes := 8, agg := false, zero := [.sc (.int .i64 0)], kind := .int .i64 })]
noncomputable def C_k80 : Cfg := mkC ty_k80 [] [] [] [] [] [] []
theorem E_k80 : Env1 Go.Proofs.Tryz.prog C_k80 := mkC_ok (by kernel_rfl) trivial (by kernel_rfl)
theorem C_k80_ty : (C_k80).ty = ty_k80 := rfl
theorem C_k80_eqs : (C_k80).eqs = [] := rfl
theorem C_k80_call : (C_k80).call = fun f => (([] : List (Nat × (List DA → Option (List RV)))).lookup f).getD fun _ => none := rfl
theorem C_k80_calls : (C_k80).calls = [] := rfl
theorem C_k80_scal : (C_k80).scal = [] := rfl
theorem C_k80_owns : (C_k80).owns = [] := rfl
theorem C_k80_vars : (C_k80).vars = [] := rfl
theorem C_k80_ores : (C_k80).ores = [] := rfl
theorem C_k80_flags : (C_k80).flags = [] := rfl
theorem C_k80_pins : (C_k80).pins = [] := rfl
theorem C_k80_inls : (C_k80).inls = [] := rfl
def T_k80 : List (Nat × LoopA) := []
set_option maxHeartbeats 20000000 in
set_option maxRecDepth 100000 in
noncomputable def pk_k80 : { F : ByteArray → ByteArray → Option (Bool) // CallC Go.Proofs.Tryz.prog 121 (con2 eStr eStr (fun x0 x1 => (F x0 x1).map (res1 rB).enc)) } :=
  ⟨_, cc2 E_k80 Go.Proofs.Tryz.func121 rfl rfl (T := T_k80) (G := []) (r := (res1 rB)) fun x0 x1 => by
    unfold Wf
    simp (maxSteps := 10000000) (implicitDefEqProofs := false) [-env0, -envI, env0_tree, envI_tree, -evOps, -evOne, -evOp, -evIndexAddr, -evIndex, -evPick, -binV, -evLoad, -evStore, -loadC, -callV, -nilC, -storeC, -toDVs, -toDAs, -resRs, List.lookup, List.replicate, List.range_succ, ty_k80, C_k80_ty, C_k80_eqs, C_k80_call, C_k80_calls, C_k80_scal, C_k80_owns, C_k80_vars, C_k80_ores, C_k80_flags, C_k80_pins, C_k80_inls, T_k80, Go.Proofs.Tryz.f121, iC, uC, bC, sC]
    try rfl⟩
noncomputable def F_k80 : ByteArray → ByteArray → Option (Bool) := pk_k80.1
noncomputable def M_k80 : List DA → Option (List RV) := con2 eStr eStr (fun x0 x1 => (F_k80 x0 x1).map (res1 rB).enc)
theorem cc_k80 : CallC Go.Proofs.Tryz.prog 121 M_k80 := pk_k80.2
theorem en_k7f : Enters Go.Proofs.Tryz.prog 107 := ⟨_, Go.Proofs.Tryz.func107, rfl, rfl⟩
def ty_k7f : List (Nat × TI) := [(9, { size := 1, bytes := 16, agg := false, zero := [.sc (.string "".toByteArray)], kind := .str })]
noncomputable def C_k7f : Cfg := mkC ty_k7f [] [(121, M_k80)] [121] [] [] [] []
theorem E_k7f : Env1 Go.Proofs.Tryz.prog C_k7f := mkC_ok (by kernel_rfl) (⟨⟨en_k80, cc_k80⟩, trivial⟩) (by kernel_rfl)
theorem C_k7f_ty : (C_k7f).ty = ty_k7f := rfl
theorem C_k7f_eqs : (C_k7f).eqs = [] := rfl
theorem C_k7f_call : (C_k7f).call = fun f => (([(121, M_k80)] : List (Nat × (List DA → Option (List RV)))).lookup f).getD fun _ => none := rfl
theorem C_k7f_calls : (C_k7f).calls = [121] := rfl
theorem C_k7f_scal : (C_k7f).scal = [121] := rfl
theorem C_k7f_owns : (C_k7f).owns = [] := rfl
theorem C_k7f_vars : (C_k7f).vars = [] := rfl
theorem C_k7f_ores : (C_k7f).ores = [] := rfl
theorem C_k7f_flags : (C_k7f).flags = [] := rfl
theorem C_k7f_pins : (C_k7f).pins = [] := rfl
theorem C_k7f_inls : (C_k7f).inls = [] := rfl
def T_k7f : List (Nat × LoopA) := []
set_option maxHeartbeats 20000000 in
set_option maxRecDepth 100000 in
noncomputable def pk_k7f : { F : ByteArray → ByteArray → Option (ByteArray × Bool) // CallC Go.Proofs.Tryz.prog 107 (con2 eStr eStr (fun x0 x1 => (F x0 x1).map (res2 rS rB).enc)) } :=
  ⟨_, cc2 E_k7f Go.Proofs.Tryz.func107 rfl rfl (T := T_k7f) (G := []) (r := (res2 rS rB)) fun x0 x1 => by
    unfold Wf
    simp (maxSteps := 10000000) (implicitDefEqProofs := false) [-env0, -envI, env0_tree, envI_tree, -evOps, -evOne, -evOp, -evIndexAddr, -evIndex, -evPick, -binV, -evLoad, -evStore, -loadC, -callV, -nilC, -storeC, -toDVs, -toDAs, -resRs, List.lookup, List.replicate, List.range_succ, ty_k7f, C_k7f_ty, C_k7f_eqs, C_k7f_call, C_k7f_calls, C_k7f_scal, C_k7f_owns, C_k7f_vars, C_k7f_ores, C_k7f_flags, C_k7f_pins, C_k7f_inls, T_k7f, Go.Proofs.Tryz.f107, M_k80, iC, uC, bC, sC]
    try rfl⟩
noncomputable def F_k7f : ByteArray → ByteArray → Option (ByteArray × Bool) := pk_k7f.1
noncomputable def M_k7f : List DA → Option (List RV) := con2 eStr eStr (fun x0 x1 => (F_k7f x0 x1).map (res2 rS rB).enc)
theorem cc_k7f : CallC Go.Proofs.Tryz.prog 107 M_k7f := pk_k7f.2
theorem en_k81 : Enters Go.Proofs.Tryz.prog 92 := ⟨_, Go.Proofs.Tryz.func92, rfl, rfl⟩
def ty_k81 : List (Nat × TI) := [(9, { size := 1, bytes := 16, agg := false, zero := [.sc (.string "".toByteArray)], kind := .str })]
noncomputable def C_k81 : Cfg := mkC ty_k81 [] [(107, M_k7f)] [107] [] [] [] []
theorem E_k81 : Env1 Go.Proofs.Tryz.prog C_k81 := mkC_ok (by kernel_rfl) (⟨⟨en_k7f, cc_k7f⟩, trivial⟩) (by kernel_rfl)
theorem C_k81_ty : (C_k81).ty = ty_k81 := rfl
theorem C_k81_eqs : (C_k81).eqs = [] := rfl
theorem C_k81_call : (C_k81).call = fun f => (([(107, M_k7f)] : List (Nat × (List DA → Option (List RV)))).lookup f).getD fun _ => none := rfl
theorem C_k81_calls : (C_k81).calls = [107] := rfl
theorem C_k81_scal : (C_k81).scal = [107] := rfl
theorem C_k81_owns : (C_k81).owns = [] := rfl
theorem C_k81_vars : (C_k81).vars = [] := rfl
theorem C_k81_ores : (C_k81).ores = [] := rfl
theorem C_k81_flags : (C_k81).flags = [] := rfl
theorem C_k81_pins : (C_k81).pins = [] := rfl
theorem C_k81_inls : (C_k81).inls = [] := rfl
def T_k81 : List (Nat × LoopA) := []
set_option maxHeartbeats 20000000 in
set_option maxRecDepth 100000 in
noncomputable def pk_k81 : { F : ByteArray → ByteArray → Option (ByteArray × Bool) // CallC Go.Proofs.Tryz.prog 92 (con2 eStr eStr (fun x0 x1 => (F x0 x1).map (res2 rS rB).enc)) } :=
  ⟨_, cc2 E_k81 Go.Proofs.Tryz.func92 rfl rfl (T := T_k81) (G := []) (r := (res2 rS rB)) fun x0 x1 => by
    unfold Wf
    simp (maxSteps := 10000000) (implicitDefEqProofs := false) [-env0, -envI, env0_tree, envI_tree, -evOps, -evOne, -evOp, -evIndexAddr, -evIndex, -evPick, -binV, -evLoad, -evStore, -loadC, -callV, -nilC, -storeC, -toDVs, -toDAs, -resRs, List.lookup, List.replicate, List.range_succ, ty_k81, C_k81_ty, C_k81_eqs, C_k81_call, C_k81_calls, C_k81_scal, C_k81_owns, C_k81_vars, C_k81_ores, C_k81_flags, C_k81_pins, C_k81_inls, T_k81, Go.Proofs.Tryz.f92, M_k7f, iC, uC, bC, sC]
    try rfl⟩
noncomputable def F_k81 : ByteArray → ByteArray → Option (ByteArray × Bool) := pk_k81.1
noncomputable def M_k81 : List DA → Option (List RV) := con2 eStr eStr (fun x0 x1 => (F_k81 x0 x1).map (res2 rS rB).enc)
theorem cc_k81 : CallC Go.Proofs.Tryz.prog 92 M_k81 := pk_k81.2
theorem en_k11 : Enters Go.Proofs.Tryz.prog 30 := ⟨_, Go.Proofs.Tryz.func30, rfl, rfl⟩
def ty_k11 : List (Nat × TI) := [(46, { size := 15, bytes := 176, agg := true, zero := [.sc (.bool false), .sc (.int .i64 0), .sc (.int .i64 0), .sc (.int .i64 0), .sl [], .sl [], .sc (.int .i64 0), .sc (.int .i64 0), .sc (.int .i64 0), .sc (.int .i64 0), .sc (.int .i64 0), .sc (.int .i64 0), .sc (.string "".toByteArray), .sl [], .sc (.int .i64 0)], kind := .struct [(0, 1, false), (1, 1, false), (2, 3, true), (5, 1, false), (6, 9, true)] }), (64, { size := 15, bytes := 176, agg := true, zero := [.sc (.bool false), .sc (.int .i64 0), .sc (.int .i64 0), .sc (.int .i64 0), .sl [], .sl [], .sc (.int .i64 0), .sc (.int .i64 0), .sc (.int .i64 0), .sc (.int .i64 0), .sc (.int .i64 0), .sc (.int .i64 0), .sc (.string "".toByteArray), .sl [], .sc (.int .i64 0)], kind := .struct [(0, 1, false), (1, 1, false), (2, 3, true), (5, 1, false), (6, 9, true)] }), (4, { size := 1, bytes := 1, agg := false, zero := [.sc (.bool false)], kind := .bool }), (3, { size := 1, bytes := 8, agg := false, zero := [.sc (.int .i64 0)], kind := .int .i64 }), (38, { size := 3, bytes := 40, agg := true, zero := [.sc (.int .i64 0), .sc (.int .i64 0), .sl []], kind := .struct [(0, 1, false), (1, 1, false), (2, 1, false)] }), (39, { size := 1, bytes := 24, agg := false, zero := [.sl []], kind := .slice 126 }), (44, { size := 9, bytes := 96, agg := true, zero := [.sc (.int .i64 0), .sc (.int .i64 0), .sc (.int .i64 0), .sc (.int .i64 0), .sc (.int .i64 0), .sc (.int .i64 0), .sc (.string "".toByteArray), .sl [], .sc (.int .i64 0)], kind := .struct [(0, 1, false), (1, 6, true), (7, 1, false), (8, 1, false)] }), (126, { size := 8, bytes := 72, agg := true, zero := [.sc (.int .i64 0), .sc (.int .i64 0), .sc (.int .i64 0), .sc (.int .i64 0), .sc (.int .i64 0), .sc (.int .i64 0), .sc (.string "".toByteArray), .sc (.int .i64 0)], kind := .struct [(0, 1, false), (1, 6, true), (7, 1, false)] })]
noncomputable def C_k11 : Cfg := mkC ty_k11 [] [] [] [] [] [] []
theorem E_k11 : Env1 Go.Proofs.Tryz.prog C_k11 := mkC_ok (by kernel_rfl) trivial (by kernel_rfl)
theorem C_k11_ty : (C_k11).ty = ty_k11 := rfl
theorem C_k11_eqs : (C_k11).eqs = [] := rfl
theorem C_k11_call : (C_k11).call = fun f => (([] : List (Nat × (List DA → Option (List RV)))).lookup f).getD fun _ => none := rfl
theorem C_k11_calls : (C_k11).calls = [] := rfl
theorem C_k11_scal : (C_k11).scal = [] := rfl
theorem C_k11_owns : (C_k11).owns = [] := rfl
theorem C_k11_vars : (C_k11).vars = [] := rfl
theorem C_k11_ores : (C_k11).ores = [] := rfl
theorem C_k11_flags : (C_k11).flags = [] := rfl
theorem C_k11_pins : (C_k11).pins = [] := rfl
theorem C_k11_inls : (C_k11).inls = [] := rfl
def T_k11 : List (Nat × LoopA) := []
set_option maxHeartbeats 20000000 in
set_option maxRecDepth 100000 in
noncomputable def pk_k11 : { F : Plan → Option (Plan) // CallC Go.Proofs.Tryz.prog 30 (con1 (eT cePlan) (fun x0 => (F x0).map (res1 (rAgg cePlan)).enc)) } :=
  ⟨_, cc1 E_k11 Go.Proofs.Tryz.func30 rfl rfl (T := T_k11) (G := []) (r := (res1 (rAgg cePlan))) fun x0 => by
    unfold Wf
    simp (maxSteps := 10000000) (implicitDefEqProofs := false) [-env0, -envI, env0_tree, envI_tree, -evOps, -evOne, -evOp, -evIndexAddr, -evIndex, -evPick, -binV, -evLoad, -evStore, -loadC, -callV, -nilC, -storeC, -toDVs, -toDAs, -resRs, List.lookup, List.replicate, List.range_succ, ty_k11, C_k11_ty, C_k11_eqs, C_k11_call, C_k11_calls, C_k11_scal, C_k11_owns, C_k11_vars, C_k11_ores, C_k11_flags, C_k11_pins, C_k11_inls, T_k11, Go.Proofs.Tryz.f30, iC, uC, bC, sC, Acc.c, Event.c, Plan.c, Result.c, Tx.c]
    try rfl⟩
noncomputable def F_k11 : Plan → Option (Plan) := pk_k11.1
noncomputable def M_k11 : List DA → Option (List RV) := con1 (eT cePlan) (fun x0 => (F_k11 x0).map (res1 (rAgg cePlan)).enc)
theorem cc_k11 : CallC Go.Proofs.Tryz.prog 30 M_k11 := pk_k11.2

end Go.Vm

/- What Go functions come to, as Lean functions: each with its contract. -/
set_option linter.unusedVariables false
set_option linter.unusedSimpArgs false
namespace Go.Vm
open Go Go.RowKit

theorem en_k43 : Enters Go.Proofs.Tryz.prog 57 := ⟨_, Go.Proofs.Tryz.func57, rfl, rfl⟩
def ty_k43 : List (Nat × TI) := [(3, { size := 1, bytes := 8, agg := false, zero := [.sc (.int .i64 0)], kind := .int .i64 }), (5, { size := 1, bytes := 1, agg := false, zero := [.sc (.int .u8 0)], kind := .int .u8 }), (114, { size := 1, bytes := 24, agg := false, zero := [.sl []], kind := .slice 5 }), (9, { size := 1, bytes := 16, agg := false, zero := [.sc (.string "".toByteArray)], kind := .str })]
noncomputable def C_k43 (M_ : List DA → Option (List RV)) : Cfg := mkC ty_k43 [] [(57, M_)] [57] [] [] [] []
theorem E_k43 (M_ : List DA → Option (List RV)) (h_ : CallC Go.Proofs.Tryz.prog 57 M_) : Env1 Go.Proofs.Tryz.prog (C_k43 M_) := mkC_ok (by kernel_rfl) (⟨⟨en_k43, h_⟩, trivial⟩) (by kernel_rfl)
theorem C_k43_ty (M_ : List DA → Option (List RV)) : (C_k43 M_).ty = ty_k43 := rfl
theorem C_k43_eqs (M_ : List DA → Option (List RV)) : (C_k43 M_).eqs = [] := rfl
theorem C_k43_call (M_ : List DA → Option (List RV)) : (C_k43 M_).call = fun f => (([(57, M_)] : List (Nat × (List DA → Option (List RV)))).lookup f).getD fun _ => none := rfl
theorem C_k43_calls (M_ : List DA → Option (List RV)) : (C_k43 M_).calls = [57] := rfl
theorem C_k43_scal (M_ : List DA → Option (List RV)) : (C_k43 M_).scal = [57] := rfl
theorem C_k43_owns (M_ : List DA → Option (List RV)) : (C_k43 M_).owns = [] := rfl
theorem C_k43_vars (M_ : List DA → Option (List RV)) : (C_k43 M_).vars = [] := rfl
theorem C_k43_ores (M_ : List DA → Option (List RV)) : (C_k43 M_).ores = [] := rfl
theorem C_k43_flags (M_ : List DA → Option (List RV)) : (C_k43 M_).flags = [] := rfl
theorem C_k43_pins (M_ : List DA → Option (List RV)) : (C_k43 M_).pins = [] := rfl
theorem C_k43_inls (M_ : List DA → Option (List RV)) : (C_k43 M_).inls = [] := rfl
def T_k43 : List (Nat × LoopA) := []
set_option maxHeartbeats 20000000 in
set_option maxRecDepth 100000 in
noncomputable def pk_k43 : { G_ : (Int → Option (ByteArray)) → Int → Option (ByteArray) // ∀ F_ : Int → Option (ByteArray), CallC Go.Proofs.Tryz.prog 57 (con1 eInt (fun x0 => (F_ x0).map (res1 rS).enc)) → CallC Go.Proofs.Tryz.prog 57 (con1 eInt (fun x0 => (G_ F_ x0).map (res1 rS).enc)) } :=
  ⟨_, fun F_ h_ => cc1 (E_k43 _ h_) Go.Proofs.Tryz.func57 rfl rfl (T := T_k43) (G := []) (r := (res1 rS)) fun x0 => by
    unfold Wf
    simp (maxSteps := 10000000) (implicitDefEqProofs := false) [-env0, -envI, env0_tree, envI_tree, -evOps, -evOne, -evOp, -evIndexAddr, -evIndex, -evPick, -binV, -evLoad, -evStore, -loadC, -callV, -nilC, -storeC, -toDVs, -toDAs, -resRs, List.lookup, List.replicate, List.range_succ, ty_k43, C_k43_ty, C_k43_eqs, C_k43_call, C_k43_calls, C_k43_scal, C_k43_owns, C_k43_vars, C_k43_ores, C_k43_flags, C_k43_pins, C_k43_inls, T_k43, Go.Proofs.Tryz.f57, iC, uC, bC, sC]
    try rfl⟩
noncomputable def G_r03_bytes : (Int → Option (ByteArray)) → Int → Option (ByteArray) := pk_k43.1
noncomputable def F_k43 : Int → Option (ByteArray) := deepF G_r03_bytes 40
noncomputable def M_k43 : List DA → Option (List RV) := con1 eInt (fun x0 => (F_k43 x0).map (res1 rS).enc)
theorem cc_k43 : CallC Go.Proofs.Tryz.prog 57 M_k43 := rec1 pk_k43.2 fun a x h => ⟨40, h⟩
theorem en_k3f : Enters Go.Proofs.Tryz.prog 41 := ⟨_, Go.Proofs.Tryz.func41, rfl, rfl⟩
def ty_k3f : List (Nat × TI) := [(3, { size := 1, bytes := 8, agg := false, zero := [.sc (.int .i64 0)], kind := .int .i64 }), (9, { size := 1, bytes := 16, agg := false, zero := [.sc (.string "".toByteArray)], kind := .str }), (5, { size := 1, bytes := 1, agg := false, zero := [.sc (.int .u8 0)], kind := .int .u8 }), (114, { size := 1, bytes := 24, agg := false, zero := [.sl []], kind := .slice 5 })]
noncomputable def C_k3f : Cfg := mkC ty_k3f [] [(57, M_k43)] [57] [] [] [] []
theorem E_k3f : Env1 Go.Proofs.Tryz.prog C_k3f := mkC_ok (by kernel_rfl) (⟨⟨en_k43, cc_k43⟩, trivial⟩) (by kernel_rfl)
theorem C_k3f_ty : (C_k3f).ty = ty_k3f := rfl
theorem C_k3f_eqs : (C_k3f).eqs = [] := rfl
theorem C_k3f_call : (C_k3f).call = fun f => (([(57, M_k43)] : List (Nat × (List DA → Option (List RV)))).lookup f).getD fun _ => none := rfl
theorem C_k3f_calls : (C_k3f).calls = [57] := rfl
theorem C_k3f_scal : (C_k3f).scal = [57] := rfl
theorem C_k3f_owns : (C_k3f).owns = [] := rfl
theorem C_k3f_vars : (C_k3f).vars = [] := rfl
theorem C_k3f_ores : (C_k3f).ores = [] := rfl
theorem C_k3f_flags : (C_k3f).flags = [] := rfl
theorem C_k3f_pins : (C_k3f).pins = [] := rfl
theorem C_k3f_inls : (C_k3f).inls = [] := rfl
def T_k3f : List (Nat × LoopA) := []
set_option maxHeartbeats 20000000 in
set_option maxRecDepth 100000 in
noncomputable def pk_k3f : { F : Int → Option (ByteArray) // CallC Go.Proofs.Tryz.prog 41 (con1 eInt (fun x0 => (F x0).map (res1 rS).enc)) } :=
  ⟨_, cc1 E_k3f Go.Proofs.Tryz.func41 rfl rfl (T := T_k3f) (G := []) (r := (res1 rS)) fun x0 => by
    unfold Wf
    simp (maxSteps := 10000000) (implicitDefEqProofs := false) [-env0, -envI, env0_tree, envI_tree, -evOps, -evOne, -evOp, -evIndexAddr, -evIndex, -evPick, -binV, -evLoad, -evStore, -loadC, -callV, -nilC, -storeC, -toDVs, -toDAs, -resRs, List.lookup, List.replicate, List.range_succ, ty_k3f, C_k3f_ty, C_k3f_eqs, C_k3f_call, C_k3f_calls, C_k3f_scal, C_k3f_owns, C_k3f_vars, C_k3f_ores, C_k3f_flags, C_k3f_pins, C_k3f_inls, T_k3f, Go.Proofs.Tryz.f41, M_k43, iC, uC, bC, sC]
    try rfl⟩
noncomputable def F_k3f : Int → Option (ByteArray) := pk_k3f.1
noncomputable def M_k3f : List DA → Option (List RV) := con1 eInt (fun x0 => (F_k3f x0).map (res1 rS).enc)
theorem cc_k3f : CallC Go.Proofs.Tryz.prog 41 M_k3f := pk_k3f.2
theorem en_k46 : Enters Go.Proofs.Tryz.prog 22 := ⟨_, Go.Proofs.Tryz.func22, rfl, rfl⟩
def ty_k46 : List (Nat × TI) := [(42, { size := 6, bytes := 56, agg := true, zero := [.sc (.int .i64 0), .sc (.int .i64 0), .sc (.int .i64 0), .sc (.int .i64 0), .sc (.int .i64 0), .sc (.string "".toByteArray)], kind := .struct [(0, 1, false), (1, 1, false), (2, 1, false), (3, 1, false), (4, 1, false), (5, 1, false)] }), (3, { size := 1, bytes := 8, agg := false, zero := [.sc (.int .i64 0)], kind := .int .i64 }), (27, { size := 1, bytes := 24, agg := false, zero := [.sl []], kind := .slice 3 }), (9, { size := 1, bytes := 16, agg := false, zero := [.sc (.string "".toByteArray)], kind := .str })]
noncomputable def C_k46 : Cfg := mkC ty_k46 [] [(40, M_k44), (41, M_k3f), (42, M_k42)] [40, 41, 42] [] [1,4,5,6] [] []
theorem E_k46 : Env1 Go.Proofs.Tryz.prog C_k46 := mkC_ok (by kernel_rfl) (⟨⟨en_k44, cc_k44⟩, ⟨⟨en_k3f, cc_k3f⟩, ⟨⟨en_k42, cc_k42⟩, trivial⟩⟩⟩) (by kernel_rfl)
theorem C_k46_ty : (C_k46).ty = ty_k46 := rfl
theorem C_k46_eqs : (C_k46).eqs = [] := rfl
theorem C_k46_call : (C_k46).call = fun f => (([(40, M_k44), (41, M_k3f), (42, M_k42)] : List (Nat × (List DA → Option (List RV)))).lookup f).getD fun _ => none := rfl
theorem C_k46_calls : (C_k46).calls = [40, 41, 42] := rfl
theorem C_k46_scal : (C_k46).scal = [40, 41, 42] := rfl
theorem C_k46_owns : (C_k46).owns = [] := rfl
theorem C_k46_vars : (C_k46).vars = [1,4,5,6] := rfl
theorem C_k46_ores : (C_k46).ores = [] := rfl
theorem C_k46_flags : (C_k46).flags = [] := rfl
theorem C_k46_pins : (C_k46).pins = [] := rfl
theorem C_k46_inls : (C_k46).inls = [] := rfl
def T_k46 : List (Nat × LoopA) := [(0, .un)]
set_option maxHeartbeats 20000000 in
set_option maxRecDepth 100000 in
noncomputable def pk_k46 : { F : Tx → Option (ByteArray × Bool) // CallC Go.Proofs.Tryz.prog 22 (con1 (eT ceTx) (fun x0 => (F x0).map (res2 rS rB).enc)) } :=
  ⟨_, cc1 E_k46 Go.Proofs.Tryz.func22 rfl rfl (T := T_k46) (G := []) (r := (res2 rS rB)) fun x0 => by
    unfold Wf
    simp (maxSteps := 10000000) (implicitDefEqProofs := false) [-env0, -envI, env0_tree, envI_tree, -evOps, -evOne, -evOp, -evIndexAddr, -evIndex, -evPick, -binV, -evLoad, -evStore, -loadC, -callV, -nilC, -storeC, -toDVs, -toDAs, -resRs, List.lookup, List.replicate, List.range_succ, ty_k46, C_k46_ty, C_k46_eqs, C_k46_call, C_k46_calls, C_k46_scal, C_k46_owns, C_k46_vars, C_k46_ores, C_k46_flags, C_k46_pins, C_k46_inls, T_k46, Go.Proofs.Tryz.f22, M_k44, M_k3f, M_k42, iC, uC, bC, sC, Tx.c, wrap64]
    try rfl⟩
noncomputable def F_k46 : Tx → Option (ByteArray × Bool) := pk_k46.1
noncomputable def M_k46 : List DA → Option (List RV) := con1 (eT ceTx) (fun x0 => (F_k46 x0).map (res2 rS rB).enc)
theorem cc_k46 : CallC Go.Proofs.Tryz.prog 22 M_k46 := pk_k46.2
theorem en_k60 : Enters Go.Proofs.Tryz.prog 29 := ⟨_, Go.Proofs.Tryz.func29, rfl, rfl⟩
def ty_k60 : List (Nat × TI) := [(64, { size := 15, bytes := 176, agg := true, zero := [.sc (.bool false), .sc (.int .i64 0), .sc (.int .i64 0), .sc (.int .i64 0), .sl [], .sl [], .sc (.int .i64 0), .sc (.int .i64 0), .sc (.int .i64 0), .sc (.int .i64 0), .sc (.int .i64 0), .sc (.int .i64 0), .sc (.string "".toByteArray), .sl [], .sc (.int .i64 0)], kind := .struct [(0, 1, false), (1, 1, false), (2, 3, true), (5, 1, false), (6, 9, true)] }), (4, { size := 1, bytes := 1, agg := false, zero := [.sc (.bool false)], kind := .bool }), (3, { size := 1, bytes := 8, agg := false, zero := [.sc (.int .i64 0)], kind := .int .i64 }), (38, { size := 3, bytes := 40, agg := true, zero := [.sc (.int .i64 0), .sc (.int .i64 0), .sl []], kind := .struct [(0, 1, false), (1, 1, false), (2, 1, false)] }), (39, { size := 1, bytes := 24, agg := false, zero := [.sl []], kind := .slice 126 }), (62, { size := 9, bytes := 96, agg := true, zero := [.sc (.int .i64 0), .sc (.int .i64 0), .sc (.int .i64 0), .sc (.int .i64 0), .sc (.int .i64 0), .sc (.int .i64 0), .sc (.string "".toByteArray), .sl [], .sc (.int .i64 0)], kind := .struct [(0, 1, false), (1, 6, true), (7, 1, false), (8, 1, false)] }), (126, { size := 8, bytes := 72, agg := true, zero := [.sc (.int .i64 0), .sc (.int .i64 0), .sc (.int .i64 0), .sc (.int .i64 0), .sc (.int .i64 0), .sc (.int .i64 0), .sc (.string "".toByteArray), .sc (.int .i64 0)], kind := .struct [(0, 1, false), (1, 6, true), (7, 1, false)] })]
noncomputable def C_k60 : Cfg := mkC ty_k60 [] [(52, M_k51), (53, M_k5b), (17, M_k5c)] [52, 53, 17] [] [] [] []
theorem E_k60 : Env1 Go.Proofs.Tryz.prog C_k60 := mkC_ok (by kernel_rfl) (⟨⟨en_k51, cc_k51⟩, ⟨⟨en_k5b, cc_k5b⟩, ⟨⟨en_k5c, cc_k5c⟩, trivial⟩⟩⟩) (by kernel_rfl)
theorem C_k60_ty : (C_k60).ty = ty_k60 := rfl
theorem C_k60_eqs : (C_k60).eqs = [] := rfl
theorem C_k60_call : (C_k60).call = fun f => (([(52, M_k51), (53, M_k5b), (17, M_k5c)] : List (Nat × (List DA → Option (List RV)))).lookup f).getD fun _ => none := rfl
theorem C_k60_calls : (C_k60).calls = [52, 53, 17] := rfl
theorem C_k60_scal : (C_k60).scal = [52, 53, 17] := rfl
theorem C_k60_owns : (C_k60).owns = [] := rfl
theorem C_k60_vars : (C_k60).vars = [] := rfl
theorem C_k60_ores : (C_k60).ores = [] := rfl
theorem C_k60_flags : (C_k60).flags = [] := rfl
theorem C_k60_pins : (C_k60).pins = [] := rfl
theorem C_k60_inls : (C_k60).inls = [] := rfl
def T_k60 : List (Nat × LoopA) := []
set_option maxHeartbeats 20000000 in
set_option maxRecDepth 100000 in
noncomputable def pk_k60 : { F : Plan → Plan → Option (Bool) // CallC Go.Proofs.Tryz.prog 29 (con2 (eT cePlan) (eT cePlan) (fun x0 x1 => (F x0 x1).map (res1 rB).enc)) } :=
  ⟨_, cc2 E_k60 Go.Proofs.Tryz.func29 rfl rfl (T := T_k60) (G := []) (r := (res1 rB)) fun x0 x1 => by
    unfold Wf
    simp (maxSteps := 10000000) (implicitDefEqProofs := false) [-env0, -envI, env0_tree, envI_tree, -evOps, -evOne, -evOp, -evIndexAddr, -evIndex, -evPick, -binV, -evLoad, -evStore, -loadC, -callV, -nilC, -storeC, -toDVs, -toDAs, -resRs, List.lookup, List.replicate, List.range_succ, ty_k60, C_k60_ty, C_k60_eqs, C_k60_call, C_k60_calls, C_k60_scal, C_k60_owns, C_k60_vars, C_k60_ores, C_k60_flags, C_k60_pins, C_k60_inls, T_k60, Go.Proofs.Tryz.f29, M_k51, M_k5b, M_k5c, iC, uC, bC, sC, Acc.c, Event.c, Plan.c, Result.c, Tx.c]
    try rfl⟩
noncomputable def F_k60 : Plan → Plan → Option (Bool) := pk_k60.1
noncomputable def M_k60 : List DA → Option (List RV) := con2 (eT cePlan) (eT cePlan) (fun x0 x1 => (F_k60 x0 x1).map (res1 rB).enc)
theorem cc_k60 : CallC Go.Proofs.Tryz.prog 29 M_k60 := pk_k60.2

end Go.Vm

/- What Go functions come to, as Lean functions: each with its contract. -/
set_option linter.unusedVariables false
set_option linter.unusedSimpArgs false
namespace Go.Vm
open Go Go.RowKit

theorem en_k03 : Enters Go.Proofs.Tryz.prog 110 := ⟨_, Go.Proofs.Tryz.func110, rfl, rfl⟩
def ty_k03 : List (Nat × TI) := [(3, { size := 1, bytes := 8, agg := false, zero := [.sc (.int .i64 0)], kind := .int .i64 }), (180, { size := 9, bytes := 9, agg := true, zero := [.sc (.int .u8 0), .sc (.int .u8 0), .sc (.int .u8 0), .sc (.int .u8 0), .sc (.int .u8 0), .sc (.int .u8 0), .sc (.int .u8 0), .sc (.int .u8 0), .sc (.int .u8 0)], kind := .array 9 5 }), (5, { size := 1, bytes := 1, agg := false, zero := [.sc (.int .u8 0)], kind := .int .u8 }), (114, { size := 1, bytes := 24, agg := false, zero := [.sl []], kind := .slice 5 }), (9, { size := 1, bytes := 16, agg := false, zero := [.sc (.string "".toByteArray)], kind := .str })]
noncomputable def C_k03 : Cfg := mkC ty_k03 [] [] [] [] [0,3,4] [] []
theorem E_k03 : Env1 Go.Proofs.Tryz.prog C_k03 := mkC_ok (by kernel_rfl) trivial (by kernel_rfl)
theorem C_k03_ty : (C_k03).ty = ty_k03 := rfl
theorem C_k03_eqs : (C_k03).eqs = [] := rfl
theorem C_k03_call : (C_k03).call = fun f => (([] : List (Nat × (List DA → Option (List RV)))).lookup f).getD fun _ => none := rfl
theorem C_k03_calls : (C_k03).calls = [] := rfl
theorem C_k03_scal : (C_k03).scal = [] := rfl
theorem C_k03_owns : (C_k03).owns = [] := rfl
theorem C_k03_vars : (C_k03).vars = [0,3,4] := rfl
theorem C_k03_ores : (C_k03).ores = [] := rfl
theorem C_k03_flags : (C_k03).flags = [] := rfl
theorem C_k03_pins : (C_k03).pins = [] := rfl
theorem C_k03_inls : (C_k03).inls = [] := rfl
def T_k03 : List (Nat × LoopA) := [(0, .un)]
set_option maxHeartbeats 20000000 in
set_option maxRecDepth 100000 in
noncomputable def pk_k03 : { F : Int → Option (ByteArray) // CallC Go.Proofs.Tryz.prog 110 (con1 eInt (fun x0 => (F x0).map (res1 rS).enc)) } :=
  ⟨_, cc1 E_k03 Go.Proofs.Tryz.func110 rfl rfl (T := T_k03) (G := []) (r := (res1 rS)) fun x0 => by
    unfold Wf
    simp (maxSteps := 10000000) (implicitDefEqProofs := false) [-env0, -envI, env0_tree, envI_tree, -evOps, -evOne, -evOp, -evIndexAddr, -evIndex, -evPick, -binV, -evLoad, -evStore, -loadC, -callV, -nilC, -storeC, -toDVs, -toDAs, -resRs, List.lookup, List.replicate, List.range_succ, ty_k03, C_k03_ty, C_k03_eqs, C_k03_call, C_k03_calls, C_k03_scal, C_k03_owns, C_k03_vars, C_k03_ores, C_k03_flags, C_k03_pins, C_k03_inls, T_k03, Go.Proofs.Tryz.f110, iC, uC, bC, sC, wrap64]
    try rfl⟩
noncomputable def F_k03 : Int → Option (ByteArray) := pk_k03.1
noncomputable def M_k03 : List DA → Option (List RV) := con1 eInt (fun x0 => (F_k03 x0).map (res1 rS).enc)
theorem cc_k03 : CallC Go.Proofs.Tryz.prog 110 M_k03 := pk_k03.2
theorem en_k04 : Enters Go.Proofs.Tryz.prog 93 := ⟨_, Go.Proofs.Tryz.func93, rfl, rfl⟩
def ty_k04 : List (Nat × TI) := [(9, { size := 1, bytes := 16, agg := false, zero := [.sc (.string "".toByteArray)], kind := .str }), (3, { size := 1, bytes := 8, agg := false, zero := [.sc (.int .i64 0)], kind := .int .i64 }), (114, { size := 1, bytes := 24, agg := false, zero := [.sl []], kind := .slice 5 }), (5, { size := 1, bytes := 1, agg := false, zero := [.sc (.int .u8 0)], kind := .int .u8 })]
noncomputable def C_k04 : Cfg := mkC ty_k04 [] [(108, M_k07), (109, M_k08), (110, M_k03)] [109, 110] [] [] [] [(6, [true, true, true, true, true, true, true, true, true, true, true, true, true, true, true, true, true, true, true, true, true])]
theorem E_k04 : Env1 Go.Proofs.Tryz.prog C_k04 := mkC_ok (by kernel_rfl) (⟨⟨en_k07, cc_k07⟩, ⟨⟨en_k08, cc_k08⟩, ⟨⟨en_k03, cc_k03⟩, trivial⟩⟩⟩) (by kernel_rfl)
theorem C_k04_ty : (C_k04).ty = ty_k04 := rfl
theorem C_k04_eqs : (C_k04).eqs = [] := rfl
theorem C_k04_call : (C_k04).call = fun f => (([(108, M_k07), (109, M_k08), (110, M_k03)] : List (Nat × (List DA → Option (List RV)))).lookup f).getD fun _ => none := rfl
theorem C_k04_calls : (C_k04).calls = [108, 109, 110] := rfl
theorem C_k04_scal : (C_k04).scal = [109, 110] := rfl
theorem C_k04_owns : (C_k04).owns = [] := rfl
theorem C_k04_vars : (C_k04).vars = [] := rfl
theorem C_k04_ores : (C_k04).ores = [] := rfl
theorem C_k04_flags : (C_k04).flags = [(6, [true, true, true, true, true, true, true, true, true, true, true, true, true, true, true, true, true, true, true, true, true])] := rfl
theorem C_k04_pins : (C_k04).pins = [] := rfl
theorem C_k04_inls : (C_k04).inls = [] := rfl
def T_k04 : List (Nat × LoopA) := []
set_option maxHeartbeats 20000000 in
set_option maxRecDepth 100000 in
noncomputable def pk_k04 : { F : ByteArray → Int → Option (Int × ByteArray × Bool) // CallC Go.Proofs.Tryz.prog 93 (con2 eStr eInt (fun x0 x1 => (F x0 x1).map (res3 rI rS rB).enc)) } :=
  ⟨_, cc2 E_k04 Go.Proofs.Tryz.func93 rfl rfl (T := T_k04) (G := []) (r := (res3 rI rS rB)) fun x0 x1 => by
    unfold Wf
    simp (maxSteps := 10000000) (implicitDefEqProofs := false) [-env0, -envI, env0_tree, envI_tree, -evOps, -evOne, -evOp, -evIndexAddr, -evIndex, -evPick, -binV, -evLoad, -evStore, -loadC, -callV, -nilC, -storeC, -toDVs, -toDAs, -resRs, List.lookup, List.replicate, List.range_succ, ty_k04, C_k04_ty, C_k04_eqs, C_k04_call, C_k04_calls, C_k04_scal, C_k04_owns, C_k04_vars, C_k04_ores, C_k04_flags, C_k04_pins, C_k04_inls, T_k04, Go.Proofs.Tryz.f93, M_k07, M_k08, M_k03, iC, uC, bC, sC]
    try rfl⟩
noncomputable def F_k04 : ByteArray → Int → Option (Int × ByteArray × Bool) := pk_k04.1
noncomputable def M_k04 : List DA → Option (List RV) := con2 eStr eInt (fun x0 x1 => (F_k04 x0 x1).map (res3 rI rS rB).enc)
theorem cc_k04 : CallC Go.Proofs.Tryz.prog 93 M_k04 := pk_k04.2
theorem en_k91 : Enters Go.Proofs.Tryz.prog 75 := ⟨_, Go.Proofs.Tryz.func75, rfl, rfl⟩
def ty_k91 : List (Nat × TI) := [(42, { size := 6, bytes := 56, agg := true, zero := [.sc (.int .i64 0), .sc (.int .i64 0), .sc (.int .i64 0), .sc (.int .i64 0), .sc (.int .i64 0), .sc (.string "".toByteArray)], kind := .struct [(0, 1, false), (1, 1, false), (2, 1, false), (3, 1, false), (4, 1, false), (5, 1, false)] }), (9, { size := 1, bytes := 16, agg := false, zero := [.sc (.string "".toByteArray)], kind := .str }), (144, { size := 5, bytes := 40, agg := true, zero := [.sc (.pointer none), .sc (.pointer none), .sc (.pointer none), .sc (.pointer none), .sc (.pointer none)], kind := .array 5 143 }), (3, { size := 1, bytes := 8, agg := false, zero := [.sc (.int .i64 0)], kind := .int .i64 }), (143, { size := 1, bytes := 8, agg := false, zero := [.sc (.pointer none)], kind := .ptr 3 })]
noncomputable def C_k91 : Cfg := mkC ty_k91 [] [(92, M_k81), (93, M_k04), (94, M_k05), (73, M_k90)] [92, 93, 94, 73] [] [2,4,6,22,23] [] []
theorem E_k91 : Env1 Go.Proofs.Tryz.prog C_k91 := mkC_ok (by kernel_rfl) (⟨⟨en_k81, cc_k81⟩, ⟨⟨en_k04, cc_k04⟩, ⟨⟨en_k05, cc_k05⟩, ⟨⟨en_k90, cc_k90⟩, trivial⟩⟩⟩⟩) (by kernel_rfl)
theorem C_k91_ty : (C_k91).ty = ty_k91 := rfl
theorem C_k91_eqs : (C_k91).eqs = [] := rfl
theorem C_k91_call : (C_k91).call = fun f => (([(92, M_k81), (93, M_k04), (94, M_k05), (73, M_k90)] : List (Nat × (List DA → Option (List RV)))).lookup f).getD fun _ => none := rfl
theorem C_k91_calls : (C_k91).calls = [92, 93, 94, 73] := rfl
theorem C_k91_scal : (C_k91).scal = [92, 93, 94, 73] := rfl
theorem C_k91_owns : (C_k91).owns = [] := rfl
theorem C_k91_vars : (C_k91).vars = [2,4,6,22,23] := rfl
theorem C_k91_ores : (C_k91).ores = [] := rfl
theorem C_k91_flags : (C_k91).flags = [] := rfl
theorem C_k91_pins : (C_k91).pins = [] := rfl
theorem C_k91_inls : (C_k91).inls = [] := rfl
def T_k91 : List (Nat × LoopA) := [(0, .un)]
set_option maxHeartbeats 20000000 in
set_option maxRecDepth 100000 in
noncomputable def pk_k91 : { F : ByteArray → Option (Tx × Bool) // CallC Go.Proofs.Tryz.prog 75 (con1 eStr (fun x0 => (F x0).map (res2 (rAgg ceTx) rB).enc)) } :=
  ⟨_, cc1 E_k91 Go.Proofs.Tryz.func75 rfl rfl (T := T_k91) (G := []) (r := (res2 (rAgg ceTx) rB)) fun x0 => by
    unfold Wf
    simp (maxSteps := 10000000) (implicitDefEqProofs := false) [-env0, -envI, env0_tree, envI_tree, -evOps, -evOne, -evOp, -evIndexAddr, -evIndex, -evPick, -binV, -evLoad, -evStore, -loadC, -callV, -nilC, -storeC, -toDVs, -toDAs, -resRs, List.lookup, List.replicate, List.range_succ, ty_k91, C_k91_ty, C_k91_eqs, C_k91_call, C_k91_calls, C_k91_scal, C_k91_owns, C_k91_vars, C_k91_ores, C_k91_flags, C_k91_pins, C_k91_inls, T_k91, Go.Proofs.Tryz.f75, M_k81, M_k04, M_k05, M_k90, iC, uC, bC, sC, Tx.c, wrap64]
    try rfl⟩
noncomputable def F_k91 : ByteArray → Option (Tx × Bool) := pk_k91.1
noncomputable def M_k91 : List DA → Option (List RV) := con1 eStr (fun x0 => (F_k91 x0).map (res2 (rAgg ceTx) rB).enc)
theorem cc_k91 : CallC Go.Proofs.Tryz.prog 75 M_k91 := pk_k91.2

end Go.Vm
