/- What Go functions come to, as Lean functions: each with its contract. -/
import Derived.Test.YtmdccbecmilljaaGreatK
import Derived.Test.YtmdccbecmilljaaGreatVd
import Derived.Test.YtmdccbecmilljaaGreatProg
import Derived.Test.YtmdccbecmilljaaGreatWa

set_option linter.unusedVariables false
set_option linter.unusedSimpArgs false
namespace Go.Vm
open Go Go.RowKit

theorem en_k01 : Enters Go.Proofs.Tryz.prog 128 := ⟨_, Go.Proofs.Tryz.func128, rfl, rfl⟩
def ty_k01 : List (Nat × TI) := [(185, { size := 1, bytes := 8, agg := false, zero := [.sc (.pointer none)], kind := .ptr 187 }), (187, { size := 2, bytes := 32, agg := true, zero := [.sc (.pointer none), .sl []], kind := .struct [(0, 1, false), (1, 1, false)] }), (114, { size := 1, bytes := 24, agg := false, zero := [.sl []], kind := .slice 5 }), (9, { size := 1, bytes := 16, agg := false, zero := [.sc (.string "".toByteArray)], kind := .str }), (5, { size := 1, bytes := 1, agg := false, zero := [.sc (.int .u8 0)], kind := .int .u8 })]
noncomputable def C0_k01 : Cfg := mkC ty_k01 [] [] [132] [] [4,5] [] []
noncomputable def C_k01 : Cfg := mkI C0_k01 [(132, I_k02)]
theorem E0_k01 : Env1 Go.Proofs.Tryz.prog C0_k01 := mkC_ok (by kernel_rfl) trivial (by kernel_rfl)
theorem E_k01 : Env1 Go.Proofs.Tryz.prog C_k01 := mkI_ok E0_k01 (⟨⟨en_k02, ic_k02⟩, trivial⟩)
theorem C_k01_ty : (C_k01).ty = ty_k01 := rfl
theorem C_k01_eqs : (C_k01).eqs = [] := rfl
theorem C_k01_call : (C_k01).call = fun f => (([] : List (Nat × (List DA → Option (List RV)))).lookup f).getD fun _ => none := rfl
theorem C_k01_calls : (C_k01).calls = [] := rfl
theorem C_k01_scal : (C_k01).scal = [132] := rfl
theorem C_k01_owns : (C_k01).owns = [] := rfl
theorem C_k01_vars : (C_k01).vars = [4,5] := rfl
theorem C_k01_ores : (C_k01).ores = [] := rfl
theorem C_k01_flags : (C_k01).flags = [] := rfl
theorem C_k01_pins : (C_k01).pins = [] := rfl
theorem C_k01_inls : (C_k01).inls = [132] := rfl
theorem C_k01_inl : (C_k01).inl = fun f => (([(132, I_k02)] : List (Nat × (List V1 → Objs → Option (TV × Objs)))).lookup f).getD fun _ _ => none := rfl
def T_k01 : List (Nat × LoopA) := []
noncomputable def I_k01 : List V1 → Objs → Option (TV × Objs) := Wi C_k01 T_k01 [] Go.Proofs.Tryz.f128
theorem ic_k01 : InlC Go.Proofs.Tryz.prog 128 I_k01 := inlC_of_W E_k01 Go.Proofs.Tryz.func128 rfl rfl
theorem en_k00 : Enters Go.Proofs.Tryz.prog 130 := ⟨_, Go.Proofs.Tryz.func130, rfl, rfl⟩
def ty_k00 : List (Nat × TI) := [(187, { size := 2, bytes := 32, agg := true, zero := [.sc (.pointer none), .sl []], kind := .struct [(0, 1, false), (1, 1, false)] }), (114, { size := 1, bytes := 24, agg := false, zero := [.sl []], kind := .slice 5 }), (194, { size := 1, bytes := 8, agg := false, zero := [.sc (.pointer none)], kind := .ptr 5 }), (3, { size := 1, bytes := 8, agg := false, zero := [.sc (.int .i64 0)], kind := .int .i64 }), (5, { size := 1, bytes := 1, agg := false, zero := [.sc (.int .u8 0)], kind := .int .u8 })]
noncomputable def C_k00 : Cfg := mkC ty_k00 [] [] [] [] [2] [] [(1, [true, true, true, true, true, true, true, true, true, true, false, true])]
theorem E_k00 : Env1 Go.Proofs.Tryz.prog C_k00 := mkC_ok (by kernel_rfl) trivial (by kernel_rfl)
theorem C_k00_ty : (C_k00).ty = ty_k00 := rfl
theorem C_k00_eqs : (C_k00).eqs = [] := rfl
theorem C_k00_call : (C_k00).call = fun f => (([] : List (Nat × (List DA → Option (List RV)))).lookup f).getD fun _ => none := rfl
theorem C_k00_calls : (C_k00).calls = [] := rfl
theorem C_k00_scal : (C_k00).scal = [] := rfl
theorem C_k00_owns : (C_k00).owns = [] := rfl
theorem C_k00_vars : (C_k00).vars = [2] := rfl
theorem C_k00_ores : (C_k00).ores = [] := rfl
theorem C_k00_flags : (C_k00).flags = [(1, [true, true, true, true, true, true, true, true, true, true, false, true])] := rfl
theorem C_k00_pins : (C_k00).pins = [] := rfl
theorem C_k00_inls : (C_k00).inls = [] := rfl
def T_k00 : List (Nat × LoopA) := []
noncomputable def I_k00 : List V1 → Objs → Option (TV × Objs) := Wi C_k00 T_k00 [] Go.Proofs.Tryz.f130
theorem ic_k00 : InlC Go.Proofs.Tryz.prog 130 I_k00 := inlC_of_W E_k00 Go.Proofs.Tryz.func130 rfl rfl

end Go.Vm

/- What Go functions come to, as Lean functions: each with its contract. -/
set_option linter.unusedVariables false
set_option linter.unusedSimpArgs false
namespace Go.Vm
open Go Go.RowKit

theorem en_k92 : Enters Go.Proofs.Tryz.prog 122 := ⟨_, Go.Proofs.Tryz.func122, rfl, rfl⟩
def ty_k92 : List (Nat × TI) := [(42, { size := 6, bytes := 56, agg := true, zero := [.sc (.int .i64 0), .sc (.int .i64 0), .sc (.int .i64 0), .sc (.int .i64 0), .sc (.int .i64 0), .sc (.string "".toByteArray)], kind := .struct [(0, 1, false), (1, 1, false), (2, 1, false), (3, 1, false), (4, 1, false), (5, 1, false)] }), (187, { size := 2, bytes := 32, agg := true, zero := [.sc (.pointer none), .sl []], kind := .struct [(0, 1, false), (1, 1, false)] }), (9, { size := 1, bytes := 16, agg := false, zero := [.sc (.string "".toByteArray)], kind := .str }), (3, { size := 1, bytes := 8, agg := false, zero := [.sc (.int .i64 0)], kind := .int .i64 }), (192, { size := 5, bytes := 40, agg := true, zero := [.sc (.int .i64 0), .sc (.int .i64 0), .sc (.int .i64 0), .sc (.int .i64 0), .sc (.int .i64 0)], kind := .array 5 3 })]
noncomputable def C0_k92 : Cfg := mkC ty_k92 [] [(73, M_k90), (110, M_k03), (129, M_k06)] [73, 110, 129, 130] [(4, [(1, 5, 1)])] [1,4,21,22] [] []
noncomputable def C_k92 : Cfg := mkI C0_k92 [(128, I_k01), (130, I_k00)]
theorem E0_k92 : Env1 Go.Proofs.Tryz.prog C0_k92 := mkC_ok (by kernel_rfl) (⟨⟨en_k90, cc_k90⟩, ⟨⟨en_k03, cc_k03⟩, ⟨⟨en_k06, cc_k06⟩, trivial⟩⟩⟩) (by kernel_rfl)
theorem E_k92 : Env1 Go.Proofs.Tryz.prog C_k92 := mkI_ok E0_k92 (⟨⟨en_k01, ic_k01⟩, ⟨⟨en_k00, ic_k00⟩, trivial⟩⟩)
theorem C_k92_ty : (C_k92).ty = ty_k92 := rfl
theorem C_k92_eqs : (C_k92).eqs = [] := rfl
theorem C_k92_call : (C_k92).call = fun f => (([(73, M_k90), (110, M_k03), (129, M_k06)] : List (Nat × (List DA → Option (List RV)))).lookup f).getD fun _ => none := rfl
theorem C_k92_calls : (C_k92).calls = [73, 110, 129] := rfl
theorem C_k92_scal : (C_k92).scal = [73, 110, 129, 130] := rfl
theorem C_k92_owns : (C_k92).owns = [(4, [(1, 5, 1)])] := rfl
theorem C_k92_vars : (C_k92).vars = [1,4,21,22] := rfl
theorem C_k92_ores : (C_k92).ores = [] := rfl
theorem C_k92_flags : (C_k92).flags = [] := rfl
theorem C_k92_pins : (C_k92).pins = [] := rfl
theorem C_k92_inls : (C_k92).inls = [128, 130] := rfl
theorem C_k92_inl : (C_k92).inl = fun f => (([(128, I_k01), (130, I_k00)] : List (Nat × (List V1 → Objs → Option (TV × Objs)))).lookup f).getD fun _ _ => none := rfl
def T_k92 : List (Nat × LoopA) := [(0, .un)]
set_option maxHeartbeats 20000000 in
set_option maxRecDepth 100000 in
noncomputable def pk_k92 : { F : Tx → Option (ByteArray × Bool) // CallC Go.Proofs.Tryz.prog 122 (con1 (eT ceTx) (fun x0 => (F x0).map (res2 rS rB).enc)) } :=
  ⟨_, cc1 E_k92 Go.Proofs.Tryz.func122 rfl rfl (T := T_k92) (G := []) (r := (res2 rS rB)) fun x0 => by
    unfold Wf
    simp (maxSteps := 10000000) (implicitDefEqProofs := false) [-env0, -envI, env0_tree, envI_tree, -evOps, -evOne, -evOp, -evIndexAddr, -evIndex, -evPick, -binV, -evLoad, -evStore, -loadC, -callV, -nilC, -storeC, -toDVs, -toDAs, -resRs, List.lookup, List.replicate, List.range_succ, ty_k92, C_k92_ty, C_k92_eqs, C_k92_call, C_k92_calls, C_k92_scal, C_k92_owns, C_k92_vars, C_k92_ores, C_k92_flags, C_k92_pins, C_k92_inls, C_k92_inl, T_k92, Go.Proofs.Tryz.f122, M_k90, M_k03, M_k06, iC, uC, bC, sC, Tx.c, wrap64, Nat.add_assoc, ty_k01, C_k01_ty, C_k01_eqs, C_k01_call, C_k01_calls, C_k01_scal, C_k01_owns, C_k01_vars, C_k01_ores, C_k01_flags, C_k01_pins, C_k01_inls, C_k01_inl, T_k01, Go.Proofs.Tryz.f128, I_k02, mkI, I_k01, Wi, ty_k00, C_k00_ty, C_k00_eqs, C_k00_call, C_k00_calls, C_k00_scal, C_k00_owns, C_k00_vars, C_k00_ores, C_k00_flags, C_k00_pins, C_k00_inls, T_k00, Go.Proofs.Tryz.f130, I_k00, mkI]
    try rfl⟩
noncomputable def F_k92 : Tx → Option (ByteArray × Bool) := pk_k92.1
noncomputable def M_k92 : List DA → Option (List RV) := con1 (eT ceTx) (fun x0 => (F_k92 x0).map (res2 rS rB).enc)
theorem cc_k92 : CallC Go.Proofs.Tryz.prog 122 M_k92 := pk_k92.2

end Go.Vm

/- What Go functions come to, as Lean functions: each with its contract. -/
set_option linter.unusedVariables false
set_option linter.unusedSimpArgs false
namespace Go.Vm
open Go Go.RowKit

theorem en_k93 : Enters Go.Proofs.Tryz.prog 111 := ⟨_, Go.Proofs.Tryz.func111, rfl, rfl⟩
def ty_k93 : List (Nat × TI) := [(42, { size := 6, bytes := 56, agg := true, zero := [.sc (.int .i64 0), .sc (.int .i64 0), .sc (.int .i64 0), .sc (.int .i64 0), .sc (.int .i64 0), .sc (.string "".toByteArray)], kind := .struct [(0, 1, false), (1, 1, false), (2, 1, false), (3, 1, false), (4, 1, false), (5, 1, false)] }), (9, { size := 1, bytes := 16, agg := false, zero := [.sc (.string "".toByteArray)], kind := .str }), (3, { size := 1, bytes := 8, agg := false, zero := [.sc (.int .i64 0)], kind := .int .i64 })]
noncomputable def C_k93 : Cfg := mkC ty_k93 [] [(122, M_k92), (123, M_k6c)] [122, 123] [] [] [] []
theorem E_k93 : Env1 Go.Proofs.Tryz.prog C_k93 := mkC_ok (by kernel_rfl) (⟨⟨en_k92, cc_k92⟩, ⟨⟨en_k6c, cc_k6c⟩, trivial⟩⟩) (by kernel_rfl)
theorem C_k93_ty : (C_k93).ty = ty_k93 := rfl
theorem C_k93_eqs : (C_k93).eqs = [] := rfl
theorem C_k93_call : (C_k93).call = fun f => (([(122, M_k92), (123, M_k6c)] : List (Nat × (List DA → Option (List RV)))).lookup f).getD fun _ => none := rfl
theorem C_k93_calls : (C_k93).calls = [122, 123] := rfl
theorem C_k93_scal : (C_k93).scal = [122, 123] := rfl
theorem C_k93_owns : (C_k93).owns = [] := rfl
theorem C_k93_vars : (C_k93).vars = [] := rfl
theorem C_k93_ores : (C_k93).ores = [] := rfl
theorem C_k93_flags : (C_k93).flags = [] := rfl
theorem C_k93_pins : (C_k93).pins = [] := rfl
theorem C_k93_inls : (C_k93).inls = [] := rfl
def T_k93 : List (Nat × LoopA) := []
set_option maxHeartbeats 20000000 in
set_option maxRecDepth 100000 in
noncomputable def pk_k93 : { F : Tx → Option (Int) // CallC Go.Proofs.Tryz.prog 111 (con1 (eT ceTx) (fun x0 => (F x0).map (res1 rI).enc)) } :=
  ⟨_, cc1 E_k93 Go.Proofs.Tryz.func111 rfl rfl (T := T_k93) (G := []) (r := (res1 rI)) fun x0 => by
    unfold Wf
    simp (maxSteps := 10000000) (implicitDefEqProofs := false) [-env0, -envI, env0_tree, envI_tree, -evOps, -evOne, -evOp, -evIndexAddr, -evIndex, -evPick, -binV, -evLoad, -evStore, -loadC, -callV, -nilC, -storeC, -toDVs, -toDAs, -resRs, List.lookup, List.replicate, List.range_succ, ty_k93, C_k93_ty, C_k93_eqs, C_k93_call, C_k93_calls, C_k93_scal, C_k93_owns, C_k93_vars, C_k93_ores, C_k93_flags, C_k93_pins, C_k93_inls, T_k93, Go.Proofs.Tryz.f111, M_k92, M_k6c, iC, uC, bC, sC, Tx.c]
    try rfl⟩
noncomputable def F_k93 : Tx → Option (Int) := pk_k93.1
noncomputable def M_k93 : List DA → Option (List RV) := con1 (eT ceTx) (fun x0 => (F_k93 x0).map (res1 rI).enc)
theorem cc_k93 : CallC Go.Proofs.Tryz.prog 111 M_k93 := pk_k93.2
theorem en_k37 : Enters Go.Proofs.Tryz.prog 114 := ⟨_, Go.Proofs.Tryz.func114, rfl, rfl⟩
def ty_k37 : List (Nat × TI) := [(38, { size := 3, bytes := 40, agg := true, zero := [.sc (.int .i64 0), .sc (.int .i64 0), .sl []], kind := .struct [(0, 1, false), (1, 1, false), (2, 1, false)] }), (36, { size := 1, bytes := 24, agg := false, zero := [.sl []], kind := .slice 42 }), (3, { size := 1, bytes := 8, agg := false, zero := [.sc (.int .i64 0)], kind := .int .i64 }), (42, { size := 6, bytes := 56, agg := true, zero := [.sc (.int .i64 0), .sc (.int .i64 0), .sc (.int .i64 0), .sc (.int .i64 0), .sc (.int .i64 0), .sc (.string "".toByteArray)], kind := .struct [(0, 1, false), (1, 1, false), (2, 1, false), (3, 1, false), (4, 1, false), (5, 1, false)] })]
noncomputable def C_k37 : Cfg := mkC ty_k37 [] [(111, M_k93)] [111] [] [3,7,8,9] [] []
theorem E_k37 : Env1 Go.Proofs.Tryz.prog C_k37 := mkC_ok (by kernel_rfl) (⟨⟨en_k93, cc_k93⟩, trivial⟩) (by kernel_rfl)
theorem C_k37_ty : (C_k37).ty = ty_k37 := rfl
theorem C_k37_eqs : (C_k37).eqs = [] := rfl
theorem C_k37_call : (C_k37).call = fun f => (([(111, M_k93)] : List (Nat × (List DA → Option (List RV)))).lookup f).getD fun _ => none := rfl
theorem C_k37_calls : (C_k37).calls = [111] := rfl
theorem C_k37_scal : (C_k37).scal = [111] := rfl
theorem C_k37_owns : (C_k37).owns = [] := rfl
theorem C_k37_vars : (C_k37).vars = [3,7,8,9] := rfl
theorem C_k37_ores : (C_k37).ores = [] := rfl
theorem C_k37_flags : (C_k37).flags = [] := rfl
theorem C_k37_pins : (C_k37).pins = [] := rfl
theorem C_k37_inls : (C_k37).inls = [] := rfl
structure L_k37_0 where
  n : Int
  v7 : List Tx
  v8 : Int
  v9 : Int
  o0 : Acc
def an_k37_0 : Ann := mkAnn (σ := L_k37_0) (lSkip vUnk <| lSkip vUnk <| lSkip vUnk <| lCons (vOne cI) <| lSkip vUnk <| lSkip vUnk <| lSkip vUnk <| lCons (vOne (cSl ceTx)) <| lCons (vOne cI) <| lCons (vOne cI) <| lSkip vUnk <| lSkip vUnk <| lSkip vUnk <| lSkip vUnk <| lSkip vUnk <| lSkip vUnk <| lSkip vUnk <| lSkip vUnk <| lSkip vUnk <|  lNil) (lCons (oBox 38 (cStr ceAcc)) <|  lNil)
  (fun a b => L_k37_0.mk (a.1) (a.2.1) (a.2.2.1) (a.2.2.2.1) (b.1)) (fun s => (s.n, s.v7, s.v8, s.v9, ())) (fun s => (s.o0, ())) (fun a b => true) (fun _ _ _ => ⟨rfl, rfl⟩)
set_option maxRecDepth 100000 in
theorem an_k37_0_st (s : an_k37_0.σ) : an_k37_0.st s = (toL 19 (.node (.node (.node (.node (.node (.node (.node (.leaf (.unk)) (.node (.leaf (.unk)) (.leaf (.v (.one (.d (.sc (.int .i64 (L_k37_0.n s))))))))) (.node (.leaf (.unk)) (.node (.leaf (.unk)) (.leaf (.v (.one (.d (.sl ((L_k37_0.v7 s).map Tx.c))))))))) (.node (.node (.node (.leaf (.v (.one (.d (.sc (.int .i64 (L_k37_0.v8 s))))))) (.leaf (.v (.one (.d (.sc (.int .i64 (L_k37_0.v9 s)))))))) (.leaf (.unk))) (.leaf (.unk)))) (.leaf (.unk))) (.leaf (.unk))) (.leaf (.unk))) (.leaf (.unk))), [.box 38 (ddv (Acc.c (L_k37_0.o0 s)))]) := rfl
set_option maxHeartbeats 4000000 in
set_option maxRecDepth 100000 in
theorem an_k37_0_un {β : Type} (n : Int) (p_v7 : List (List DV)) (v8 : Int) (v9 : Int) (p_o0 : List CV) (f_ : an_k37_0.σ → Option β) : (an_k37_0.un [.unk, .unk, .unk, .v (.one (.d (.sc (.int .i64 n)))), .unk, .unk, .unk, .v (.one (.d (.sl p_v7))), .v (.one (.d (.sc (.int .i64 v8)))), .v (.one (.d (.sc (.int .i64 v9)))), .unk, .unk, .unk, .unk, .unk, .unk, .unk, .unk, .unk] [.box 38 p_o0]).bind f_ = (decL dTx p_v7).bind fun v7 => ((allD p_o0).bind dAcc).bind fun o0 => f_ (L_k37_0.mk n v7 v8 v9 o0) :=
  (mkAnn_un (σ := L_k37_0) _ _ _ _ _ _ _ _ _ f_).trans (by simp (maxSteps := 10000000) [Option.bind_assoc])
def T_k37 : List (Nat × LoopA) := [(0, .ty an_k37_0)]
set_option maxHeartbeats 20000000 in
set_option maxRecDepth 100000 in
noncomputable def pk_k37 : { F : Acc → Option (Int) // CallC Go.Proofs.Tryz.prog 114 (con1 (eT ceAcc) (fun x0 => (F x0).map (res1 rI).enc)) } :=
  ⟨_, cc1 E_k37 Go.Proofs.Tryz.func114 rfl rfl (T := T_k37) (G := []) (r := (res1 rI)) fun x0 => by
    unfold Wf
    simp (maxSteps := 10000000) (implicitDefEqProofs := false) [-env0, -envI, env0_tree, envI_tree, -evOps, -evOne, -evOp, -evIndexAddr, -evIndex, -evPick, -binV, -evLoad, -evStore, -loadC, -callV, -nilC, -storeC, -toDVs, -toDAs, -resRs, List.lookup, List.replicate, List.range_succ, ty_k37, C_k37_ty, C_k37_eqs, C_k37_call, C_k37_calls, C_k37_scal, C_k37_owns, C_k37_vars, C_k37_ores, C_k37_flags, C_k37_pins, C_k37_inls, T_k37, Go.Proofs.Tryz.f114, M_k93, an_k37_0_st, an_k37_0_un, iC, uC, bC, sC, Acc.c, Tx.c]
    try rfl⟩
noncomputable def F_k37 : Acc → Option (Int) := pk_k37.1
noncomputable def M_k37 : List DA → Option (List RV) := con1 (eT ceAcc) (fun x0 => (F_k37 x0).map (res1 rI).enc)
theorem cc_k37 : CallC Go.Proofs.Tryz.prog 114 M_k37 := pk_k37.2
theorem en_k35 : Enters Go.Proofs.Tryz.prog 95 := ⟨_, Go.Proofs.Tryz.func95, rfl, rfl⟩
def ty_k35 : List (Nat × TI) := [(38, { size := 3, bytes := 40, agg := true, zero := [.sc (.int .i64 0), .sc (.int .i64 0), .sl []], kind := .struct [(0, 1, false), (1, 1, false), (2, 1, false)] }), (42, { size := 6, bytes := 56, agg := true, zero := [.sc (.int .i64 0), .sc (.int .i64 0), .sc (.int .i64 0), .sc (.int .i64 0), .sc (.int .i64 0), .sc (.string "".toByteArray)], kind := .struct [(0, 1, false), (1, 1, false), (2, 1, false), (3, 1, false), (4, 1, false), (5, 1, false)] }), (3, { size := 1, bytes := 8, agg := false, zero := [.sc (.int .i64 0)], kind := .int .i64 }), (36, { size := 1, bytes := 24, agg := false, zero := [.sl []], kind := .slice 42 })]
noncomputable def C_k35 : Cfg := mkC ty_k35 [] [(58, M_k31), (73, M_k90), (72, M_k38), (96, M_k34), (111, M_k93), (112, M_k6b)] [58, 73, 72, 96, 111, 112] [] [] [] [(13, [true, true, true, false, true, true, true])]
theorem E_k35 : Env1 Go.Proofs.Tryz.prog C_k35 := mkC_ok (by kernel_rfl) (⟨⟨en_k31, cc_k31⟩, ⟨⟨en_k90, cc_k90⟩, ⟨⟨en_k38, cc_k38⟩, ⟨⟨en_k34, cc_k34⟩, ⟨⟨en_k93, cc_k93⟩, ⟨⟨en_k6b, cc_k6b⟩, trivial⟩⟩⟩⟩⟩⟩) (by kernel_rfl)
theorem C_k35_ty : (C_k35).ty = ty_k35 := rfl
theorem C_k35_eqs : (C_k35).eqs = [] := rfl
theorem C_k35_call : (C_k35).call = fun f => (([(58, M_k31), (73, M_k90), (72, M_k38), (96, M_k34), (111, M_k93), (112, M_k6b)] : List (Nat × (List DA → Option (List RV)))).lookup f).getD fun _ => none := rfl
theorem C_k35_calls : (C_k35).calls = [58, 73, 72, 96, 111, 112] := rfl
theorem C_k35_scal : (C_k35).scal = [58, 73, 72, 96, 111, 112] := rfl
theorem C_k35_owns : (C_k35).owns = [] := rfl
theorem C_k35_vars : (C_k35).vars = [] := rfl
theorem C_k35_ores : (C_k35).ores = [] := rfl
theorem C_k35_flags : (C_k35).flags = [(13, [true, true, true, false, true, true, true])] := rfl
theorem C_k35_pins : (C_k35).pins = [] := rfl
theorem C_k35_inls : (C_k35).inls = [] := rfl
def T_k35 : List (Nat × LoopA) := []
set_option maxHeartbeats 20000000 in
set_option maxRecDepth 100000 in
noncomputable def pk_k35 : { F : Acc → Tx → Int → Int → Option (Int × Int) // CallC Go.Proofs.Tryz.prog 95 (con4 (eT ceAcc) (eT ceTx) eInt eInt (fun x0 x1 x2 x3 => (F x0 x1 x2 x3).map (res2 rI rI).enc)) } :=
  ⟨_, cc4 E_k35 Go.Proofs.Tryz.func95 rfl rfl (T := T_k35) (G := []) (r := (res2 rI rI)) fun x0 x1 x2 x3 => by
    unfold Wf
    simp (maxSteps := 10000000) (implicitDefEqProofs := false) [-env0, -envI, env0_tree, envI_tree, -evOps, -evOne, -evOp, -evIndexAddr, -evIndex, -evPick, -binV, -evLoad, -evStore, -loadC, -callV, -nilC, -storeC, -toDVs, -toDAs, -resRs, List.lookup, List.replicate, List.range_succ, ty_k35, C_k35_ty, C_k35_eqs, C_k35_call, C_k35_calls, C_k35_scal, C_k35_owns, C_k35_vars, C_k35_ores, C_k35_flags, C_k35_pins, C_k35_inls, T_k35, Go.Proofs.Tryz.f95, M_k31, M_k90, M_k38, M_k34, M_k93, M_k6b, iC, uC, bC, sC, Acc.c, Tx.c]
    try rfl⟩
noncomputable def F_k35 : Acc → Tx → Int → Int → Option (Int × Int) := pk_k35.1
noncomputable def M_k35 : List DA → Option (List RV) := con4 (eT ceAcc) (eT ceTx) eInt eInt (fun x0 x1 x2 x3 => (F_k35 x0 x1 x2 x3).map (res2 rI rI).enc)
theorem cc_k35 : CallC Go.Proofs.Tryz.prog 95 M_k35 := pk_k35.2
theorem en_k36 : Enters Go.Proofs.Tryz.prog 98 := ⟨_, Go.Proofs.Tryz.func98, rfl, rfl⟩
def ty_k36 : List (Nat × TI) := [(38, { size := 3, bytes := 40, agg := true, zero := [.sc (.int .i64 0), .sc (.int .i64 0), .sl []], kind := .struct [(0, 1, false), (1, 1, false), (2, 1, false)] }), (42, { size := 6, bytes := 56, agg := true, zero := [.sc (.int .i64 0), .sc (.int .i64 0), .sc (.int .i64 0), .sc (.int .i64 0), .sc (.int .i64 0), .sc (.string "".toByteArray)], kind := .struct [(0, 1, false), (1, 1, false), (2, 1, false), (3, 1, false), (4, 1, false), (5, 1, false)] }), (36, { size := 1, bytes := 24, agg := false, zero := [.sl []], kind := .slice 42 }), (3, { size := 1, bytes := 8, agg := false, zero := [.sc (.int .i64 0)], kind := .int .i64 })]
noncomputable def C0_k36 : Cfg := mkC ty_k36 [] [(113, M_k39), (115, M_k76)] [113] [] [] [] []
noncomputable def C_k36 : Cfg := mkI C0_k36 [(116, I_k7e)]
theorem E0_k36 : Env1 Go.Proofs.Tryz.prog C0_k36 := mkC_ok (by kernel_rfl) (⟨⟨en_k39, cc_k39⟩, ⟨⟨en_k76, cc_k76⟩, trivial⟩⟩) (by kernel_rfl)
theorem E_k36 : Env1 Go.Proofs.Tryz.prog C_k36 := mkI_ok E0_k36 (⟨⟨en_k7e, ic_k7e⟩, trivial⟩)
theorem C_k36_ty : (C_k36).ty = ty_k36 := rfl
theorem C_k36_eqs : (C_k36).eqs = [] := rfl
theorem C_k36_call : (C_k36).call = fun f => (([(113, M_k39), (115, M_k76)] : List (Nat × (List DA → Option (List RV)))).lookup f).getD fun _ => none := rfl
theorem C_k36_calls : (C_k36).calls = [113, 115] := rfl
theorem C_k36_scal : (C_k36).scal = [113] := rfl
theorem C_k36_owns : (C_k36).owns = [] := rfl
theorem C_k36_vars : (C_k36).vars = [] := rfl
theorem C_k36_ores : (C_k36).ores = [] := rfl
theorem C_k36_flags : (C_k36).flags = [] := rfl
theorem C_k36_pins : (C_k36).pins = [] := rfl
theorem C_k36_inls : (C_k36).inls = [116] := rfl
theorem C_k36_inl : (C_k36).inl = fun f => (([(116, I_k7e)] : List (Nat × (List V1 → Objs → Option (TV × Objs)))).lookup f).getD fun _ _ => none := rfl
def T_k36 : List (Nat × LoopA) := []
set_option maxHeartbeats 20000000 in
set_option maxRecDepth 100000 in
noncomputable def pk_k36 : { F : Acc → Tx → Option (Acc) // CallC Go.Proofs.Tryz.prog 98 (con2 (eT ceAcc) (eT ceTx) (fun x0 x1 => (F x0 x1).map (res1 (rAgg ceAcc)).enc)) } :=
  ⟨_, cc2 E_k36 Go.Proofs.Tryz.func98 rfl rfl (T := T_k36) (G := []) (r := (res1 (rAgg ceAcc))) fun x0 x1 => by
    unfold Wf
    simp (maxSteps := 10000000) (implicitDefEqProofs := false) [-env0, -envI, env0_tree, envI_tree, -evOps, -evOne, -evOp, -evIndexAddr, -evIndex, -evPick, -binV, -evLoad, -evStore, -loadC, -callV, -nilC, -storeC, -toDVs, -toDAs, -resRs, List.lookup, List.replicate, List.range_succ, ty_k36, C_k36_ty, C_k36_eqs, C_k36_call, C_k36_calls, C_k36_scal, C_k36_owns, C_k36_vars, C_k36_ores, C_k36_flags, C_k36_pins, C_k36_inls, C_k36_inl, T_k36, Go.Proofs.Tryz.f98, M_k39, M_k76, iC, uC, bC, sC, Acc.c, Tx.c, I_k7e, mkI]
    try rfl⟩
noncomputable def F_k36 : Acc → Tx → Option (Acc) := pk_k36.1
noncomputable def M_k36 : List DA → Option (List RV) := con2 (eT ceAcc) (eT ceTx) (fun x0 x1 => (F_k36 x0 x1).map (res1 (rAgg ceAcc)).enc)
theorem cc_k36 : CallC Go.Proofs.Tryz.prog 98 M_k36 := pk_k36.2

end Go.Vm

/- What Go functions come to, as Lean functions: each with its contract. -/
set_option linter.unusedVariables false
set_option linter.unusedSimpArgs false
namespace Go.Vm
open Go Go.RowKit

theorem en_k2a : Enters Go.Proofs.Tryz.prog 97 := ⟨_, Go.Proofs.Tryz.func97, rfl, rfl⟩
def ty_k2a : List (Nat × TI) := [(38, { size := 3, bytes := 40, agg := true, zero := [.sc (.int .i64 0), .sc (.int .i64 0), .sl []], kind := .struct [(0, 1, false), (1, 1, false), (2, 1, false)] }), (154, { size := 18, bytes := 216, agg := true, zero := [.sc (.bool false), .sc (.int .i64 0), .sc (.int .i64 0), .sc (.int .i64 0), .sl [], .sl [], .sc (.int .i64 0), .sc (.int .i64 0), .sc (.int .i64 0), .sc (.int .i64 0), .sc (.int .i64 0), .sc (.int .i64 0), .sc (.string "".toByteArray), .sl [], .sc (.int .i64 0), .sc (.int .i64 0), .sc (.int .i64 0), .sl []], kind := .struct [(0, 15, true), (15, 3, true)] }), (46, { size := 15, bytes := 176, agg := true, zero := [.sc (.bool false), .sc (.int .i64 0), .sc (.int .i64 0), .sc (.int .i64 0), .sl [], .sl [], .sc (.int .i64 0), .sc (.int .i64 0), .sc (.int .i64 0), .sc (.int .i64 0), .sc (.int .i64 0), .sc (.int .i64 0), .sc (.string "".toByteArray), .sl [], .sc (.int .i64 0)], kind := .struct [(0, 1, false), (1, 1, false), (2, 3, true), (5, 1, false), (6, 9, true)] }), (4, { size := 1, bytes := 1, agg := false, zero := [.sc (.bool false)], kind := .bool }), (3, { size := 1, bytes := 8, agg := false, zero := [.sc (.int .i64 0)], kind := .int .i64 })]
noncomputable def C_k2a : Cfg := mkP (mkC ty_k2a [] [(114, M_k37)] [114] [] [4] [] [(1, [true, true, true, true, true, true, false, true, true, true, false]), (2, [true, true, true, true, true, true, true, false, true, true, true, true, false])]) [(1, [3])]
theorem E_k2a : Env1 Go.Proofs.Tryz.prog C_k2a := mkP_ok (mkC_ok (by kernel_rfl) (⟨⟨en_k37, cc_k37⟩, trivial⟩) (by kernel_rfl))
theorem C_k2a_ty : (C_k2a).ty = ty_k2a := rfl
theorem C_k2a_eqs : (C_k2a).eqs = [] := rfl
theorem C_k2a_call : (C_k2a).call = fun f => (([(114, M_k37)] : List (Nat × (List DA → Option (List RV)))).lookup f).getD fun _ => none := rfl
theorem C_k2a_calls : (C_k2a).calls = [114] := rfl
theorem C_k2a_scal : (C_k2a).scal = [114] := rfl
theorem C_k2a_owns : (C_k2a).owns = [] := rfl
theorem C_k2a_vars : (C_k2a).vars = [4] := rfl
theorem C_k2a_ores : (C_k2a).ores = [] := rfl
theorem C_k2a_flags : (C_k2a).flags = [(1, [true, true, true, true, true, true, false, true, true, true, false]), (2, [true, true, true, true, true, true, true, false, true, true, true, true, false])] := rfl
theorem C_k2a_pins : (C_k2a).pins = [(1, [3])] := rfl
theorem C_k2a_inls : (C_k2a).inls = [] := rfl
def T_k2a : List (Nat × LoopA) := []
noncomputable def I_k2a : List V1 → Objs → Option (TV × Objs) := Wi C_k2a T_k2a [] Go.Proofs.Tryz.f97
theorem ic_k2a : InlC Go.Proofs.Tryz.prog 97 I_k2a := inlC_of_W E_k2a Go.Proofs.Tryz.func97 rfl rfl
theorem en_k25 : Enters Go.Proofs.Tryz.prog 100 := ⟨_, Go.Proofs.Tryz.func100, rfl, rfl⟩
def ty_k25 : List (Nat × TI) := [(44, { size := 9, bytes := 96, agg := true, zero := [.sc (.int .i64 0), .sc (.int .i64 0), .sc (.int .i64 0), .sc (.int .i64 0), .sc (.int .i64 0), .sc (.int .i64 0), .sc (.string "".toByteArray), .sl [], .sc (.int .i64 0)], kind := .struct [(0, 1, false), (1, 6, true), (7, 1, false), (8, 1, false)] }), (46, { size := 15, bytes := 176, agg := true, zero := [.sc (.bool false), .sc (.int .i64 0), .sc (.int .i64 0), .sc (.int .i64 0), .sl [], .sl [], .sc (.int .i64 0), .sc (.int .i64 0), .sc (.int .i64 0), .sc (.int .i64 0), .sc (.int .i64 0), .sc (.int .i64 0), .sc (.string "".toByteArray), .sl [], .sc (.int .i64 0)], kind := .struct [(0, 1, false), (1, 1, false), (2, 3, true), (5, 1, false), (6, 9, true)] }), (154, { size := 18, bytes := 216, agg := true, zero := [.sc (.bool false), .sc (.int .i64 0), .sc (.int .i64 0), .sc (.int .i64 0), .sl [], .sl [], .sc (.int .i64 0), .sc (.int .i64 0), .sc (.int .i64 0), .sc (.int .i64 0), .sc (.int .i64 0), .sc (.int .i64 0), .sc (.string "".toByteArray), .sl [], .sc (.int .i64 0), .sc (.int .i64 0), .sc (.int .i64 0), .sl []], kind := .struct [(0, 15, true), (15, 3, true)] })]
noncomputable def C_k25 : Cfg := mkC ty_k25 [] [] [] [] [4] [] []
theorem E_k25 : Env1 Go.Proofs.Tryz.prog C_k25 := mkC_ok (by kernel_rfl) trivial (by kernel_rfl)
theorem C_k25_ty : (C_k25).ty = ty_k25 := rfl
theorem C_k25_eqs : (C_k25).eqs = [] := rfl
theorem C_k25_call : (C_k25).call = fun f => (([] : List (Nat × (List DA → Option (List RV)))).lookup f).getD fun _ => none := rfl
theorem C_k25_calls : (C_k25).calls = [] := rfl
theorem C_k25_scal : (C_k25).scal = [] := rfl
theorem C_k25_owns : (C_k25).owns = [] := rfl
theorem C_k25_vars : (C_k25).vars = [4] := rfl
theorem C_k25_ores : (C_k25).ores = [] := rfl
theorem C_k25_flags : (C_k25).flags = [] := rfl
theorem C_k25_pins : (C_k25).pins = [] := rfl
theorem C_k25_inls : (C_k25).inls = [] := rfl
def T_k25 : List (Nat × LoopA) := []
noncomputable def I_k25 : List V1 → Objs → Option (TV × Objs) := Wi C_k25 T_k25 [] Go.Proofs.Tryz.f100
theorem ic_k25 : InlC Go.Proofs.Tryz.prog 100 I_k25 := inlC_of_W E_k25 Go.Proofs.Tryz.func100 rfl rfl
theorem en_k28 : Enters Go.Proofs.Tryz.prog 99 := ⟨_, Go.Proofs.Tryz.func99, rfl, rfl⟩
def ty_k28 : List (Nat × TI) := [(36, { size := 1, bytes := 24, agg := false, zero := [.sl []], kind := .slice 42 }), (3, { size := 1, bytes := 8, agg := false, zero := [.sc (.int .i64 0)], kind := .int .i64 }), (42, { size := 6, bytes := 56, agg := true, zero := [.sc (.int .i64 0), .sc (.int .i64 0), .sc (.int .i64 0), .sc (.int .i64 0), .sc (.int .i64 0), .sc (.string "".toByteArray)], kind := .struct [(0, 1, false), (1, 1, false), (2, 1, false), (3, 1, false), (4, 1, false), (5, 1, false)] }), (154, { size := 18, bytes := 216, agg := true, zero := [.sc (.bool false), .sc (.int .i64 0), .sc (.int .i64 0), .sc (.int .i64 0), .sl [], .sl [], .sc (.int .i64 0), .sc (.int .i64 0), .sc (.int .i64 0), .sc (.int .i64 0), .sc (.int .i64 0), .sc (.int .i64 0), .sc (.string "".toByteArray), .sl [], .sc (.int .i64 0), .sc (.int .i64 0), .sc (.int .i64 0), .sl []], kind := .struct [(0, 15, true), (15, 3, true)] }), (46, { size := 15, bytes := 176, agg := true, zero := [.sc (.bool false), .sc (.int .i64 0), .sc (.int .i64 0), .sc (.int .i64 0), .sl [], .sl [], .sc (.int .i64 0), .sc (.int .i64 0), .sc (.int .i64 0), .sc (.int .i64 0), .sc (.int .i64 0), .sc (.int .i64 0), .sc (.string "".toByteArray), .sl [], .sc (.int .i64 0)], kind := .struct [(0, 1, false), (1, 1, false), (2, 3, true), (5, 1, false), (6, 9, true)] }), (39, { size := 1, bytes := 24, agg := false, zero := [.sl []], kind := .slice 126 }), (126, { size := 8, bytes := 72, agg := true, zero := [.sc (.int .i64 0), .sc (.int .i64 0), .sc (.int .i64 0), .sc (.int .i64 0), .sc (.int .i64 0), .sc (.int .i64 0), .sc (.string "".toByteArray), .sc (.int .i64 0)], kind := .struct [(0, 1, false), (1, 6, true), (7, 1, false)] })]
noncomputable def C_k28 : Cfg := mkC ty_k28 [] [] [] [] [0,1,6,9,10,11] [] [(4, [true, true, true, true, true, true, true, true, true, true, false, true, true, true, false])]
theorem E_k28 : Env1 Go.Proofs.Tryz.prog C_k28 := mkC_ok (by kernel_rfl) trivial (by kernel_rfl)
theorem C_k28_ty : (C_k28).ty = ty_k28 := rfl
theorem C_k28_eqs : (C_k28).eqs = [] := rfl
theorem C_k28_call : (C_k28).call = fun f => (([] : List (Nat × (List DA → Option (List RV)))).lookup f).getD fun _ => none := rfl
theorem C_k28_calls : (C_k28).calls = [] := rfl
theorem C_k28_scal : (C_k28).scal = [] := rfl
theorem C_k28_owns : (C_k28).owns = [] := rfl
theorem C_k28_vars : (C_k28).vars = [0,1,6,9,10,11] := rfl
theorem C_k28_ores : (C_k28).ores = [] := rfl
theorem C_k28_flags : (C_k28).flags = [(4, [true, true, true, true, true, true, true, true, true, true, false, true, true, true, false])] := rfl
theorem C_k28_pins : (C_k28).pins = [] := rfl
theorem C_k28_inls : (C_k28).inls = [] := rfl
def T_k28 : List (Nat × LoopA) := [(0, .un)]
noncomputable def I_k28 : List V1 → Objs → Option (TV × Objs) := Wi C_k28 T_k28 [] Go.Proofs.Tryz.f99
theorem ic_k28 : InlC Go.Proofs.Tryz.prog 99 I_k28 := inlC_of_W E_k28 Go.Proofs.Tryz.func99 rfl rfl
theorem en_k26 : Enters Go.Proofs.Tryz.prog 79 := ⟨_, Go.Proofs.Tryz.func79, rfl, rfl⟩
def ty_k26 : List (Nat × TI) := [(38, { size := 3, bytes := 40, agg := true, zero := [.sc (.int .i64 0), .sc (.int .i64 0), .sl []], kind := .struct [(0, 1, false), (1, 1, false), (2, 1, false)] }), (46, { size := 15, bytes := 176, agg := true, zero := [.sc (.bool false), .sc (.int .i64 0), .sc (.int .i64 0), .sc (.int .i64 0), .sl [], .sl [], .sc (.int .i64 0), .sc (.int .i64 0), .sc (.int .i64 0), .sc (.int .i64 0), .sc (.int .i64 0), .sc (.int .i64 0), .sc (.string "".toByteArray), .sl [], .sc (.int .i64 0)], kind := .struct [(0, 1, false), (1, 1, false), (2, 3, true), (5, 1, false), (6, 9, true)] }), (3, { size := 1, bytes := 8, agg := false, zero := [.sc (.int .i64 0)], kind := .int .i64 }), (42, { size := 6, bytes := 56, agg := true, zero := [.sc (.int .i64 0), .sc (.int .i64 0), .sc (.int .i64 0), .sc (.int .i64 0), .sc (.int .i64 0), .sc (.string "".toByteArray)], kind := .struct [(0, 1, false), (1, 1, false), (2, 1, false), (3, 1, false), (4, 1, false), (5, 1, false)] }), (40, { size := 1, bytes := 8, agg := false, zero := [.sc (.int .i64 0)], kind := .int .i64 }), (44, { size := 9, bytes := 96, agg := true, zero := [.sc (.int .i64 0), .sc (.int .i64 0), .sc (.int .i64 0), .sc (.int .i64 0), .sc (.int .i64 0), .sc (.int .i64 0), .sc (.string "".toByteArray), .sl [], .sc (.int .i64 0)], kind := .struct [(0, 1, false), (1, 6, true), (7, 1, false), (8, 1, false)] })]
noncomputable def C_k26 : Cfg := mkC ty_k26 [] [(96, M_k34), (80, M_k27)] [96] [] [] [] []
theorem E_k26 : Env1 Go.Proofs.Tryz.prog C_k26 := mkC_ok (by kernel_rfl) (⟨⟨en_k34, cc_k34⟩, ⟨⟨en_k27, cc_k27⟩, trivial⟩⟩) (by kernel_rfl)
theorem C_k26_ty : (C_k26).ty = ty_k26 := rfl
theorem C_k26_eqs : (C_k26).eqs = [] := rfl
theorem C_k26_call : (C_k26).call = fun f => (([(96, M_k34), (80, M_k27)] : List (Nat × (List DA → Option (List RV)))).lookup f).getD fun _ => none := rfl
theorem C_k26_calls : (C_k26).calls = [96, 80] := rfl
theorem C_k26_scal : (C_k26).scal = [96] := rfl
theorem C_k26_owns : (C_k26).owns = [] := rfl
theorem C_k26_vars : (C_k26).vars = [] := rfl
theorem C_k26_ores : (C_k26).ores = [] := rfl
theorem C_k26_flags : (C_k26).flags = [] := rfl
theorem C_k26_pins : (C_k26).pins = [] := rfl
theorem C_k26_inls : (C_k26).inls = [] := rfl
def T_k26 : List (Nat × LoopA) := []
set_option maxHeartbeats 20000000 in
set_option maxRecDepth 100000 in
noncomputable def pk_k26 : { F : Acc → Int → Option (Plan) // CallC Go.Proofs.Tryz.prog 79 (con2 (eT ceAcc) eInt (fun x0 x1 => (F x0 x1).map (res1 (rAgg cePlan)).enc)) } :=
  ⟨_, cc2 E_k26 Go.Proofs.Tryz.func79 rfl rfl (T := T_k26) (G := []) (r := (res1 (rAgg cePlan))) fun x0 x1 => by
    unfold Wf
    simp (maxSteps := 10000000) (implicitDefEqProofs := false) [-env0, -envI, env0_tree, envI_tree, -evOps, -evOne, -evOp, -evIndexAddr, -evIndex, -evPick, -binV, -evLoad, -evStore, -loadC, -callV, -nilC, -storeC, -toDVs, -toDAs, -resRs, List.lookup, List.replicate, List.range_succ, ty_k26, C_k26_ty, C_k26_eqs, C_k26_call, C_k26_calls, C_k26_scal, C_k26_owns, C_k26_vars, C_k26_ores, C_k26_flags, C_k26_pins, C_k26_inls, T_k26, Go.Proofs.Tryz.f79, M_k34, M_k27, iC, uC, bC, sC, Acc.c, Event.c, Plan.c, Result.c, Tx.c]
    try rfl⟩
noncomputable def F_k26 : Acc → Int → Option (Plan) := pk_k26.1
noncomputable def M_k26 : List DA → Option (List RV) := con2 (eT ceAcc) eInt (fun x0 x1 => (F_k26 x0 x1).map (res1 (rAgg cePlan)).enc)
theorem cc_k26 : CallC Go.Proofs.Tryz.prog 79 M_k26 := pk_k26.2
theorem en_k22 : Enters Go.Proofs.Tryz.prog 61 := ⟨_, Go.Proofs.Tryz.func61, rfl, rfl⟩
def ty_k22 : List (Nat × TI) := [(35, { size := 5, bytes := 48, agg := true, zero := [.sc (.int .i64 0), .sc (.int .i64 0), .sc (.int .i64 0), .sc (.int .i64 0), .sc (.string "".toByteArray)], kind := .struct [(0, 1, false), (1, 1, false), (2, 1, false), (3, 1, false), (4, 1, false)] }), (3, { size := 1, bytes := 8, agg := false, zero := [.sc (.int .i64 0)], kind := .int .i64 }), (9, { size := 1, bytes := 16, agg := false, zero := [.sc (.string "".toByteArray)], kind := .str }), (42, { size := 6, bytes := 56, agg := true, zero := [.sc (.int .i64 0), .sc (.int .i64 0), .sc (.int .i64 0), .sc (.int .i64 0), .sc (.int .i64 0), .sc (.string "".toByteArray)], kind := .struct [(0, 1, false), (1, 1, false), (2, 1, false), (3, 1, false), (4, 1, false), (5, 1, false)] })]
noncomputable def C_k22 : Cfg := mkC ty_k22 [] [(75, M_k91)] [75] [] [] [] []
theorem E_k22 : Env1 Go.Proofs.Tryz.prog C_k22 := mkC_ok (by kernel_rfl) (⟨⟨en_k91, cc_k91⟩, trivial⟩) (by kernel_rfl)
theorem C_k22_ty : (C_k22).ty = ty_k22 := rfl
theorem C_k22_eqs : (C_k22).eqs = [] := rfl
theorem C_k22_call : (C_k22).call = fun f => (([(75, M_k91)] : List (Nat × (List DA → Option (List RV)))).lookup f).getD fun _ => none := rfl
theorem C_k22_calls : (C_k22).calls = [75] := rfl
theorem C_k22_scal : (C_k22).scal = [75] := rfl
theorem C_k22_owns : (C_k22).owns = [] := rfl
theorem C_k22_vars : (C_k22).vars = [] := rfl
theorem C_k22_ores : (C_k22).ores = [] := rfl
theorem C_k22_flags : (C_k22).flags = [] := rfl
theorem C_k22_pins : (C_k22).pins = [] := rfl
theorem C_k22_inls : (C_k22).inls = [] := rfl
def T_k22 : List (Nat × LoopA) := []
set_option maxHeartbeats 20000000 in
set_option maxRecDepth 100000 in
noncomputable def pk_k22 : { F : Op → Option (Int × Bool) // CallC Go.Proofs.Tryz.prog 61 (con1 (eT ceOp) (fun x0 => (F x0).map (res2 rI rB).enc)) } :=
  ⟨_, cc1 E_k22 Go.Proofs.Tryz.func61 rfl rfl (T := T_k22) (G := []) (r := (res2 rI rB)) fun x0 => by
    unfold Wf
    simp (maxSteps := 10000000) (implicitDefEqProofs := false) [-env0, -envI, env0_tree, envI_tree, -evOps, -evOne, -evOp, -evIndexAddr, -evIndex, -evPick, -binV, -evLoad, -evStore, -loadC, -callV, -nilC, -storeC, -toDVs, -toDAs, -resRs, List.lookup, List.replicate, List.range_succ, ty_k22, C_k22_ty, C_k22_eqs, C_k22_call, C_k22_calls, C_k22_scal, C_k22_owns, C_k22_vars, C_k22_ores, C_k22_flags, C_k22_pins, C_k22_inls, T_k22, Go.Proofs.Tryz.f61, M_k91, iC, uC, bC, sC, Op.c, Tx.c]
    try rfl⟩
noncomputable def F_k22 : Op → Option (Int × Bool) := pk_k22.1
noncomputable def M_k22 : List DA → Option (List RV) := con1 (eT ceOp) (fun x0 => (F_k22 x0).map (res2 rI rB).enc)
theorem cc_k22 : CallC Go.Proofs.Tryz.prog 61 M_k22 := pk_k22.2
theorem en_k1f : Enters Go.Proofs.Tryz.prog 77 := ⟨_, Go.Proofs.Tryz.func77, rfl, rfl⟩
def ty_k1f : List (Nat × TI) := [(38, { size := 3, bytes := 40, agg := true, zero := [.sc (.int .i64 0), .sc (.int .i64 0), .sl []], kind := .struct [(0, 1, false), (1, 1, false), (2, 1, false)] }), (46, { size := 15, bytes := 176, agg := true, zero := [.sc (.bool false), .sc (.int .i64 0), .sc (.int .i64 0), .sc (.int .i64 0), .sl [], .sl [], .sc (.int .i64 0), .sc (.int .i64 0), .sc (.int .i64 0), .sc (.int .i64 0), .sc (.int .i64 0), .sc (.int .i64 0), .sc (.string "".toByteArray), .sl [], .sc (.int .i64 0)], kind := .struct [(0, 1, false), (1, 1, false), (2, 3, true), (5, 1, false), (6, 9, true)] }), (3, { size := 1, bytes := 8, agg := false, zero := [.sc (.int .i64 0)], kind := .int .i64 }), (42, { size := 6, bytes := 56, agg := true, zero := [.sc (.int .i64 0), .sc (.int .i64 0), .sc (.int .i64 0), .sc (.int .i64 0), .sc (.int .i64 0), .sc (.string "".toByteArray)], kind := .struct [(0, 1, false), (1, 1, false), (2, 1, false), (3, 1, false), (4, 1, false), (5, 1, false)] }), (40, { size := 1, bytes := 8, agg := false, zero := [.sc (.int .i64 0)], kind := .int .i64 }), (154, { size := 18, bytes := 216, agg := true, zero := [.sc (.bool false), .sc (.int .i64 0), .sc (.int .i64 0), .sc (.int .i64 0), .sl [], .sl [], .sc (.int .i64 0), .sc (.int .i64 0), .sc (.int .i64 0), .sc (.int .i64 0), .sc (.int .i64 0), .sc (.int .i64 0), .sc (.string "".toByteArray), .sl [], .sc (.int .i64 0), .sc (.int .i64 0), .sc (.int .i64 0), .sl []], kind := .struct [(0, 15, true), (15, 3, true)] }), (152, { size := 1, bytes := 8, agg := false, zero := [.sc (.pointer none)], kind := .ptr 154 }), (36, { size := 1, bytes := 24, agg := false, zero := [.sl []], kind := .slice 42 }), (44, { size := 9, bytes := 96, agg := true, zero := [.sc (.int .i64 0), .sc (.int .i64 0), .sc (.int .i64 0), .sc (.int .i64 0), .sc (.int .i64 0), .sc (.int .i64 0), .sc (.string "".toByteArray), .sl [], .sc (.int .i64 0)], kind := .struct [(0, 1, false), (1, 6, true), (7, 1, false), (8, 1, false)] })]
noncomputable def C0_k1f : Cfg := mkP (mkC ty_k1f [] [(96, M_k34), (80, M_k27), (101, M_k32)] [96] [(18, [(5, 126, 8)])] [] [] [(5, [true, true, true, false, false, true, true, false, true, true, false, false])]) [(5, [5])]
noncomputable def C_k1f : Cfg := mkI C0_k1f [(97, I_k2a), (99, I_k28), (100, I_k25)]
theorem E0_k1f : Env1 Go.Proofs.Tryz.prog C0_k1f := mkP_ok (mkC_ok (by kernel_rfl) (⟨⟨en_k34, cc_k34⟩, ⟨⟨en_k27, cc_k27⟩, ⟨⟨en_k32, cc_k32⟩, trivial⟩⟩⟩) (by kernel_rfl))
theorem E_k1f : Env1 Go.Proofs.Tryz.prog C_k1f := mkI_ok E0_k1f (⟨⟨en_k2a, ic_k2a⟩, ⟨⟨en_k28, ic_k28⟩, ⟨⟨en_k25, ic_k25⟩, trivial⟩⟩⟩)
theorem C_k1f_ty : (C_k1f).ty = ty_k1f := rfl
theorem C_k1f_eqs : (C_k1f).eqs = [] := rfl
theorem C_k1f_call : (C_k1f).call = fun f => (([(96, M_k34), (80, M_k27), (101, M_k32)] : List (Nat × (List DA → Option (List RV)))).lookup f).getD fun _ => none := rfl
theorem C_k1f_calls : (C_k1f).calls = [96, 80, 101] := rfl
theorem C_k1f_scal : (C_k1f).scal = [96] := rfl
theorem C_k1f_owns : (C_k1f).owns = [(18, [(5, 126, 8)])] := rfl
theorem C_k1f_vars : (C_k1f).vars = [] := rfl
theorem C_k1f_ores : (C_k1f).ores = [] := rfl
theorem C_k1f_flags : (C_k1f).flags = [(5, [true, true, true, false, false, true, true, false, true, true, false, false])] := rfl
theorem C_k1f_pins : (C_k1f).pins = [(5, [5])] := rfl
theorem C_k1f_inls : (C_k1f).inls = [97, 99, 100] := rfl
theorem C_k1f_inl : (C_k1f).inl = fun f => (([(97, I_k2a), (99, I_k28), (100, I_k25)] : List (Nat × (List V1 → Objs → Option (TV × Objs)))).lookup f).getD fun _ _ => none := rfl
def T_k1f : List (Nat × LoopA) := []
set_option maxHeartbeats 20000000 in
set_option maxRecDepth 100000 in
noncomputable def pk_k1f : { F : Acc → Int → Option (Plan) // CallC Go.Proofs.Tryz.prog 77 (con2 (eT ceAcc) eInt (fun x0 x1 => (F x0 x1).map (res1 (rAgg cePlan)).enc)) } :=
  ⟨_, cc2 E_k1f Go.Proofs.Tryz.func77 rfl rfl (T := T_k1f) (G := []) (r := (res1 (rAgg cePlan))) fun x0 x1 => by
    unfold Wf
    simp (maxSteps := 10000000) (implicitDefEqProofs := false) [-env0, -envI, env0_tree, envI_tree, -evOps, -evOne, -evOp, -evIndexAddr, -evIndex, -evPick, -binV, -evLoad, -evStore, -loadC, -callV, -nilC, -storeC, -toDVs, -toDAs, -resRs, List.lookup, List.replicate, List.range_succ, ty_k1f, C_k1f_ty, C_k1f_eqs, C_k1f_call, C_k1f_calls, C_k1f_scal, C_k1f_owns, C_k1f_vars, C_k1f_ores, C_k1f_flags, C_k1f_pins, C_k1f_inls, C_k1f_inl, T_k1f, Go.Proofs.Tryz.f77, M_k34, M_k27, M_k32, iC, uC, bC, sC, Acc.c, Event.c, Plan.c, Planner.c, Result.c, Tx.c, wrap64, ty_k2a, C_k2a_ty, C_k2a_eqs, C_k2a_call, C_k2a_calls, C_k2a_scal, C_k2a_owns, C_k2a_vars, C_k2a_ores, C_k2a_flags, C_k2a_pins, C_k2a_inls, T_k2a, Go.Proofs.Tryz.f97, M_k37, I_k2a, Wi, ty_k28, C_k28_ty, C_k28_eqs, C_k28_call, C_k28_calls, C_k28_scal, C_k28_owns, C_k28_vars, C_k28_ores, C_k28_flags, C_k28_pins, C_k28_inls, T_k28, Go.Proofs.Tryz.f99, I_k28, ty_k25, C_k25_ty, C_k25_eqs, C_k25_call, C_k25_calls, C_k25_scal, C_k25_owns, C_k25_vars, C_k25_ores, C_k25_flags, C_k25_pins, C_k25_inls, T_k25, Go.Proofs.Tryz.f100, I_k25, mkI]
    try rfl⟩
noncomputable def F_k1f : Acc → Int → Option (Plan) := pk_k1f.1
noncomputable def M_k1f : List DA → Option (List RV) := con2 (eT ceAcc) eInt (fun x0 x1 => (F_k1f x0 x1).map (res1 (rAgg cePlan)).enc)
theorem cc_k1f : CallC Go.Proofs.Tryz.prog 77 M_k1f := pk_k1f.2
theorem en_k23 : Enters Go.Proofs.Tryz.prog 76 := ⟨_, Go.Proofs.Tryz.func76, rfl, rfl⟩
def ty_k23 : List (Nat × TI) := [(26, { size := 8, bytes := 64, agg := true, zero := [.sc (.int .i64 0), .sc (.int .i64 0), .sc (.int .i64 0), .sc (.int .i64 0), .sc (.int .i64 0), .sc (.int .i64 0), .sc (.int .i64 0), .sc (.int .i64 0)], kind := .struct [(0, 1, false), (1, 1, false), (2, 1, false), (3, 1, false), (4, 1, false), (5, 1, false), (6, 1, false), (7, 1, false)] }), (38, { size := 3, bytes := 40, agg := true, zero := [.sc (.int .i64 0), .sc (.int .i64 0), .sl []], kind := .struct [(0, 1, false), (1, 1, false), (2, 1, false)] }), (46, { size := 15, bytes := 176, agg := true, zero := [.sc (.bool false), .sc (.int .i64 0), .sc (.int .i64 0), .sc (.int .i64 0), .sl [], .sl [], .sc (.int .i64 0), .sc (.int .i64 0), .sc (.int .i64 0), .sc (.int .i64 0), .sc (.int .i64 0), .sc (.int .i64 0), .sc (.string "".toByteArray), .sl [], .sc (.int .i64 0)], kind := .struct [(0, 1, false), (1, 1, false), (2, 3, true), (5, 1, false), (6, 9, true)] }), (9, { size := 1, bytes := 16, agg := false, zero := [.sc (.string "".toByteArray)], kind := .str }), (42, { size := 6, bytes := 56, agg := true, zero := [.sc (.int .i64 0), .sc (.int .i64 0), .sc (.int .i64 0), .sc (.int .i64 0), .sc (.int .i64 0), .sc (.string "".toByteArray)], kind := .struct [(0, 1, false), (1, 1, false), (2, 1, false), (3, 1, false), (4, 1, false), (5, 1, false)] }), (40, { size := 1, bytes := 8, agg := false, zero := [.sc (.int .i64 0)], kind := .int .i64 }), (3, { size := 1, bytes := 8, agg := false, zero := [.sc (.int .i64 0)], kind := .int .i64 }), (154, { size := 18, bytes := 216, agg := true, zero := [.sc (.bool false), .sc (.int .i64 0), .sc (.int .i64 0), .sc (.int .i64 0), .sl [], .sl [], .sc (.int .i64 0), .sc (.int .i64 0), .sc (.int .i64 0), .sc (.int .i64 0), .sc (.int .i64 0), .sc (.int .i64 0), .sc (.string "".toByteArray), .sl [], .sc (.int .i64 0), .sc (.int .i64 0), .sc (.int .i64 0), .sl []], kind := .struct [(0, 15, true), (15, 3, true)] }), (152, { size := 1, bytes := 8, agg := false, zero := [.sc (.pointer none)], kind := .ptr 154 }), (36, { size := 1, bytes := 24, agg := false, zero := [.sl []], kind := .slice 42 }), (44, { size := 9, bytes := 96, agg := true, zero := [.sc (.int .i64 0), .sc (.int .i64 0), .sc (.int .i64 0), .sc (.int .i64 0), .sc (.int .i64 0), .sc (.int .i64 0), .sc (.string "".toByteArray), .sl [], .sc (.int .i64 0)], kind := .struct [(0, 1, false), (1, 6, true), (7, 1, false), (8, 1, false)] })]
noncomputable def C0_k23 : Cfg := mkP (mkC ty_k23 [] [(75, M_k91), (80, M_k27), (95, M_k35), (96, M_k34), (98, M_k36)] [75, 95, 96] [(46, [(5, 126, 8)])] [] [] [(12, [true, true, true, false, false, true, true, true, false, true, false, false])]) [(12, [7])]
noncomputable def C_k23 : Cfg := mkI C0_k23 [(97, I_k2a), (99, I_k28), (100, I_k25)]
theorem E0_k23 : Env1 Go.Proofs.Tryz.prog C0_k23 := mkP_ok (mkC_ok (by kernel_rfl) (⟨⟨en_k91, cc_k91⟩, ⟨⟨en_k27, cc_k27⟩, ⟨⟨en_k35, cc_k35⟩, ⟨⟨en_k34, cc_k34⟩, ⟨⟨en_k36, cc_k36⟩, trivial⟩⟩⟩⟩⟩) (by kernel_rfl))
theorem E_k23 : Env1 Go.Proofs.Tryz.prog C_k23 := mkI_ok E0_k23 (⟨⟨en_k2a, ic_k2a⟩, ⟨⟨en_k28, ic_k28⟩, ⟨⟨en_k25, ic_k25⟩, trivial⟩⟩⟩)
theorem C_k23_ty : (C_k23).ty = ty_k23 := rfl
theorem C_k23_eqs : (C_k23).eqs = [] := rfl
theorem C_k23_call : (C_k23).call = fun f => (([(75, M_k91), (80, M_k27), (95, M_k35), (96, M_k34), (98, M_k36)] : List (Nat × (List DA → Option (List RV)))).lookup f).getD fun _ => none := rfl
theorem C_k23_calls : (C_k23).calls = [75, 80, 95, 96, 98] := rfl
theorem C_k23_scal : (C_k23).scal = [75, 95, 96] := rfl
theorem C_k23_owns : (C_k23).owns = [(46, [(5, 126, 8)])] := rfl
theorem C_k23_vars : (C_k23).vars = [] := rfl
theorem C_k23_ores : (C_k23).ores = [] := rfl
theorem C_k23_flags : (C_k23).flags = [(12, [true, true, true, false, false, true, true, true, false, true, false, false])] := rfl
theorem C_k23_pins : (C_k23).pins = [(12, [7])] := rfl
theorem C_k23_inls : (C_k23).inls = [97, 99, 100] := rfl
theorem C_k23_inl : (C_k23).inl = fun f => (([(97, I_k2a), (99, I_k28), (100, I_k25)] : List (Nat × (List V1 → Objs → Option (TV × Objs)))).lookup f).getD fun _ _ => none := rfl
def T_k23 : List (Nat × LoopA) := []
set_option maxHeartbeats 20000000 in
set_option maxRecDepth 100000 in
noncomputable def pk_k23 : { F : Config → Acc → ByteArray → Option (Plan) // CallC Go.Proofs.Tryz.prog 76 (con3 (eT ceConfig) (eT ceAcc) eStr (fun x0 x1 x2 => (F x0 x1 x2).map (res1 (rAgg cePlan)).enc)) } :=
  ⟨_, cc3 E_k23 Go.Proofs.Tryz.func76 rfl rfl (T := T_k23) (G := []) (r := (res1 (rAgg cePlan))) fun x0 x1 x2 => by
    unfold Wf
    simp (maxSteps := 10000000) (implicitDefEqProofs := false) [-env0, -envI, env0_tree, envI_tree, -evOps, -evOne, -evOp, -evIndexAddr, -evIndex, -evPick, -binV, -evLoad, -evStore, -loadC, -callV, -nilC, -storeC, -toDVs, -toDAs, -resRs, List.lookup, List.replicate, List.range_succ, ty_k23, C_k23_ty, C_k23_eqs, C_k23_call, C_k23_calls, C_k23_scal, C_k23_owns, C_k23_vars, C_k23_ores, C_k23_flags, C_k23_pins, C_k23_inls, C_k23_inl, T_k23, Go.Proofs.Tryz.f76, M_k91, M_k27, M_k35, M_k34, M_k36, iC, uC, bC, sC, Acc.c, Config.c, Event.c, Plan.c, Planner.c, Result.c, Tx.c, wrap64, ty_k2a, C_k2a_ty, C_k2a_eqs, C_k2a_call, C_k2a_calls, C_k2a_scal, C_k2a_owns, C_k2a_vars, C_k2a_ores, C_k2a_flags, C_k2a_pins, C_k2a_inls, T_k2a, Go.Proofs.Tryz.f97, M_k37, I_k2a, Wi, ty_k28, C_k28_ty, C_k28_eqs, C_k28_call, C_k28_calls, C_k28_scal, C_k28_owns, C_k28_vars, C_k28_ores, C_k28_flags, C_k28_pins, C_k28_inls, T_k28, Go.Proofs.Tryz.f99, I_k28, ty_k25, C_k25_ty, C_k25_eqs, C_k25_call, C_k25_calls, C_k25_scal, C_k25_owns, C_k25_vars, C_k25_ores, C_k25_flags, C_k25_pins, C_k25_inls, T_k25, Go.Proofs.Tryz.f100, I_k25, mkI]
    try rfl⟩
noncomputable def F_k23 : Config → Acc → ByteArray → Option (Plan) := pk_k23.1
noncomputable def M_k23 : List DA → Option (List RV) := con3 (eT ceConfig) (eT ceAcc) eStr (fun x0 x1 x2 => (F_k23 x0 x1 x2).map (res1 (rAgg cePlan)).enc)
theorem cc_k23 : CallC Go.Proofs.Tryz.prog 76 M_k23 := pk_k23.2

end Go.Vm

/- What Go functions come to, as Lean functions: each with its contract. -/
set_option linter.unusedVariables false
set_option linter.unusedSimpArgs false
namespace Go.Vm
open Go Go.RowKit

theorem en_k29 : Enters Go.Proofs.Tryz.prog 99 := ⟨_, Go.Proofs.Tryz.func99, rfl, rfl⟩
def ty_k29 : List (Nat × TI) := [(36, { size := 1, bytes := 24, agg := false, zero := [.sl []], kind := .slice 42 }), (3, { size := 1, bytes := 8, agg := false, zero := [.sc (.int .i64 0)], kind := .int .i64 }), (42, { size := 6, bytes := 56, agg := true, zero := [.sc (.int .i64 0), .sc (.int .i64 0), .sc (.int .i64 0), .sc (.int .i64 0), .sc (.int .i64 0), .sc (.string "".toByteArray)], kind := .struct [(0, 1, false), (1, 1, false), (2, 1, false), (3, 1, false), (4, 1, false), (5, 1, false)] }), (154, { size := 18, bytes := 216, agg := true, zero := [.sc (.bool false), .sc (.int .i64 0), .sc (.int .i64 0), .sc (.int .i64 0), .sl [], .sl [], .sc (.int .i64 0), .sc (.int .i64 0), .sc (.int .i64 0), .sc (.int .i64 0), .sc (.int .i64 0), .sc (.int .i64 0), .sc (.string "".toByteArray), .sl [], .sc (.int .i64 0), .sc (.int .i64 0), .sc (.int .i64 0), .sl []], kind := .struct [(0, 15, true), (15, 3, true)] }), (46, { size := 15, bytes := 176, agg := true, zero := [.sc (.bool false), .sc (.int .i64 0), .sc (.int .i64 0), .sc (.int .i64 0), .sl [], .sl [], .sc (.int .i64 0), .sc (.int .i64 0), .sc (.int .i64 0), .sc (.int .i64 0), .sc (.int .i64 0), .sc (.int .i64 0), .sc (.string "".toByteArray), .sl [], .sc (.int .i64 0)], kind := .struct [(0, 1, false), (1, 1, false), (2, 3, true), (5, 1, false), (6, 9, true)] }), (39, { size := 1, bytes := 24, agg := false, zero := [.sl []], kind := .slice 126 }), (126, { size := 8, bytes := 72, agg := true, zero := [.sc (.int .i64 0), .sc (.int .i64 0), .sc (.int .i64 0), .sc (.int .i64 0), .sc (.int .i64 0), .sc (.int .i64 0), .sc (.string "".toByteArray), .sc (.int .i64 0)], kind := .struct [(0, 1, false), (1, 6, true), (7, 1, false)] })]
noncomputable def C_k29 : Cfg := mkC ty_k29 [] [] [] [] [0,1,9,10,11] [] [(4, [true, true, true, true, true, true, true, true, true, true, false, true, true, true, false])]
theorem E_k29 : Env1 Go.Proofs.Tryz.prog C_k29 := mkC_ok (by kernel_rfl) trivial (by kernel_rfl)
theorem C_k29_ty : (C_k29).ty = ty_k29 := rfl
theorem C_k29_eqs : (C_k29).eqs = [] := rfl
theorem C_k29_call : (C_k29).call = fun f => (([] : List (Nat × (List DA → Option (List RV)))).lookup f).getD fun _ => none := rfl
theorem C_k29_calls : (C_k29).calls = [] := rfl
theorem C_k29_scal : (C_k29).scal = [] := rfl
theorem C_k29_owns : (C_k29).owns = [] := rfl
theorem C_k29_vars : (C_k29).vars = [0,1,9,10,11] := rfl
theorem C_k29_ores : (C_k29).ores = [] := rfl
theorem C_k29_flags : (C_k29).flags = [(4, [true, true, true, true, true, true, true, true, true, true, false, true, true, true, false])] := rfl
theorem C_k29_pins : (C_k29).pins = [] := rfl
theorem C_k29_inls : (C_k29).inls = [] := rfl
structure L_k29_0 where
  kind : Int
  v9 : List Tx
  v10 : Int
  v11 : Int
  o0 : Acc
  changes : Bool
  delta : Int
  after_sender : Int
  after_base : Int
  result_err : Int
  result_tx_sender : Int
  result_tx_nonce : Int
  result_tx_tip : Int
  result_tx_cap : Int
  result_tx_gas : Int
  result_tx_data : ByteArray
  result_slots : Int
  o2 : Acc
  o3 : List Event
  plan_changes : Bool
  plan_delta : Int
  plan_after_sender : Int
  plan_after_base : Int
  plan_after_txs : List Tx
  plan_result_err : Int
  plan_result_tx_sender : Int
  plan_result_tx_nonce : Int
  plan_result_tx_tip : Int
  plan_result_tx_cap : Int
  plan_result_tx_gas : Int
  plan_result_tx_data : ByteArray
  plan_result_slots : Int
  a_sender : Int
  a_base : Int
  a_txs : List Tx
def an_k29_0 : Ann := mkAnn (σ := L_k29_0) (lSkip (vOne (cPtr 4 0 0)) <| lCons (vOne cI) <| lSkip vUnk <| lSkip vUnk <| lSkip vUnk <| lSkip vUnk <| lSkip vUnk <| lSkip vUnk <| lSkip vUnk <| lCons (vOne (cSl ceTx)) <| lCons (vOne cI) <| lCons (vOne cI) <| lSkip vUnk <| lSkip vUnk <| lSkip vUnk <| lSkip vUnk <| lSkip vUnk <| lSkip vUnk <| lSkip vUnk <| lSkip vUnk <| lSkip vUnk <| lSkip vUnk <| lSkip vUnk <| lSkip vUnk <| lSkip vUnk <| lSkip vUnk <| lSkip vUnk <| lSkip vUnk <| lSkip vUnk <| lSkip vUnk <| lSkip vUnk <|  lNil) (lCons (oBox 38 (cStr ceAcc)) <| lCons (oBox 46 (lCons cB <| lCons cI <| lCons cI <| lCons cI <| lSkip cNil <| lSkip cNil <| lCons cI <| lCons cI <| lCons cI <| lCons cI <| lCons cI <| lCons cI <| lCons cS <| lSkip cNil <| lCons cI <|  lNil)) <| lCons (oBox 38 (cStr ceAcc)) <| lCons (oArr 126 8 ceEvent) <| lCons (oBox 154 (lCons cB <| lCons cI <| lCons cI <| lCons cI <| lCons (cSl ceTx) <| lCons (cOwn 3) <| lCons cI <| lCons cI <| lCons cI <| lCons cI <| lCons cI <| lCons cI <| lCons cS <| lSkip cNil <| lCons cI <| lCons cI <| lCons cI <| lCons (cSl ceTx) <|  lNil)) <| lSkip oNil <|  lNil)
  (fun a b => L_k29_0.mk (a.1) (a.2.1) (a.2.2.1) (a.2.2.2.1) (b.1) (b.2.1.1) (b.2.1.2.1) (b.2.1.2.2.1) (b.2.1.2.2.2.1) (b.2.1.2.2.2.2.1) (b.2.1.2.2.2.2.2.1) (b.2.1.2.2.2.2.2.2.1) (b.2.1.2.2.2.2.2.2.2.1) (b.2.1.2.2.2.2.2.2.2.2.1) (b.2.1.2.2.2.2.2.2.2.2.2.1) (b.2.1.2.2.2.2.2.2.2.2.2.2.1) (b.2.1.2.2.2.2.2.2.2.2.2.2.2.1) (b.2.2.1) (b.2.2.2.1) (b.2.2.2.2.1.1) (b.2.2.2.2.1.2.1) (b.2.2.2.2.1.2.2.1) (b.2.2.2.2.1.2.2.2.1) (b.2.2.2.2.1.2.2.2.2.1) (b.2.2.2.2.1.2.2.2.2.2.2.1) (b.2.2.2.2.1.2.2.2.2.2.2.2.1) (b.2.2.2.2.1.2.2.2.2.2.2.2.2.1) (b.2.2.2.2.1.2.2.2.2.2.2.2.2.2.1) (b.2.2.2.2.1.2.2.2.2.2.2.2.2.2.2.1) (b.2.2.2.2.1.2.2.2.2.2.2.2.2.2.2.2.1) (b.2.2.2.2.1.2.2.2.2.2.2.2.2.2.2.2.2.1) (b.2.2.2.2.1.2.2.2.2.2.2.2.2.2.2.2.2.2.1) (b.2.2.2.2.1.2.2.2.2.2.2.2.2.2.2.2.2.2.2.1) (b.2.2.2.2.1.2.2.2.2.2.2.2.2.2.2.2.2.2.2.2.1) (b.2.2.2.2.1.2.2.2.2.2.2.2.2.2.2.2.2.2.2.2.2.1)) (fun s => (s.kind, s.v9, s.v10, s.v11, ())) (fun s => (s.o0, (s.changes, s.delta, s.after_sender, s.after_base, s.result_err, s.result_tx_sender, s.result_tx_nonce, s.result_tx_tip, s.result_tx_cap, s.result_tx_gas, s.result_tx_data, s.result_slots, ()), s.o2, s.o3, (s.plan_changes, s.plan_delta, s.plan_after_sender, s.plan_after_base, s.plan_after_txs, s.o3.length, s.plan_result_err, s.plan_result_tx_sender, s.plan_result_tx_nonce, s.plan_result_tx_tip, s.plan_result_tx_cap, s.plan_result_tx_gas, s.plan_result_tx_data, s.plan_result_slots, s.a_sender, s.a_base, s.a_txs, ()), ())) (fun a b => decide (b.2.2.2.2.1.2.2.2.2.2.1 = (b.2.2.2.1).length)) (by rintro ⟨a0, a1, a2, a3, _⟩ ⟨b0, ⟨c1_0, c1_1, c1_2, c1_3, c1_4, c1_5, c1_6, c1_7, c1_8, c1_9, c1_10, c1_11, _⟩, b2, b3, ⟨c4_0, c4_1, c4_2, c4_3, c4_4, c4_5, c4_6, c4_7, c4_8, c4_9, c4_10, c4_11, c4_12, c4_13, c4_14, c4_15, c4_16, _⟩, _⟩ h; simp at h; simp [h])
set_option maxRecDepth 100000 in
theorem an_k29_0_st (s : an_k29_0.σ) : an_k29_0.st s = (toL 31 (.node (.node (.node (.node (.node (.node (.node (.node (.leaf (.v (.one (.ptr 4 0 0)))) (.leaf (.v (.one (.d (.sc (.int .i64 (L_k29_0.kind s)))))))) (.leaf (.unk))) (.leaf (.unk))) (.node (.node (.node (.leaf (.unk)) (.leaf (.v (.one (.d (.sl ((L_k29_0.v9 s).map Tx.c))))))) (.node (.leaf (.v (.one (.d (.sc (.int .i64 (L_k29_0.v10 s))))))) (.leaf (.v (.one (.d (.sc (.int .i64 (L_k29_0.v11 s))))))))) (.leaf (.unk)))) (.leaf (.unk))) (.leaf (.unk))) (.leaf (.unk))) (.leaf (.unk))), [.box 38 (ddv (Acc.c (L_k29_0.o0 s))), .box 46 [.d (.sc (.bool (L_k29_0.changes s))), .d (.sc (.int .i64 (L_k29_0.delta s))), .d (.sc (.int .i64 (L_k29_0.after_sender s))), .d (.sc (.int .i64 (L_k29_0.after_base s))), .nil, .nil, .d (.sc (.int .i64 (L_k29_0.result_err s))), .d (.sc (.int .i64 (L_k29_0.result_tx_sender s))), .d (.sc (.int .i64 (L_k29_0.result_tx_nonce s))), .d (.sc (.int .i64 (L_k29_0.result_tx_tip s))), .d (.sc (.int .i64 (L_k29_0.result_tx_cap s))), .d (.sc (.int .i64 (L_k29_0.result_tx_gas s))), .d (.sc (.string (L_k29_0.result_tx_data s))), .nil, .d (.sc (.int .i64 (L_k29_0.result_slots s)))], .box 38 (ddv (Acc.c (L_k29_0.o2 s))), .arr 126 8 ((L_k29_0.o3 s).map Event.c), .box 154 [.d (.sc (.bool (L_k29_0.plan_changes s))), .d (.sc (.int .i64 (L_k29_0.plan_delta s))), .d (.sc (.int .i64 (L_k29_0.plan_after_sender s))), .d (.sc (.int .i64 (L_k29_0.plan_after_base s))), .d (.sl ((L_k29_0.plan_after_txs s).map Tx.c)), .own 3 (L_k29_0.o3 s).length, .d (.sc (.int .i64 (L_k29_0.plan_result_err s))), .d (.sc (.int .i64 (L_k29_0.plan_result_tx_sender s))), .d (.sc (.int .i64 (L_k29_0.plan_result_tx_nonce s))), .d (.sc (.int .i64 (L_k29_0.plan_result_tx_tip s))), .d (.sc (.int .i64 (L_k29_0.plan_result_tx_cap s))), .d (.sc (.int .i64 (L_k29_0.plan_result_tx_gas s))), .d (.sc (.string (L_k29_0.plan_result_tx_data s))), .nil, .d (.sc (.int .i64 (L_k29_0.plan_result_slots s))), .d (.sc (.int .i64 (L_k29_0.a_sender s))), .d (.sc (.int .i64 (L_k29_0.a_base s))), .d (.sl ((L_k29_0.a_txs s).map Tx.c))], .nil]) := rfl
set_option maxHeartbeats 4000000 in
set_option maxRecDepth 100000 in
theorem an_k29_0_un {β : Type} (kind : Int) (p_v9 : List (List DV)) (v10 : Int) (v11 : Int) (p_o0 : List CV) (changes : Bool) (delta : Int) (after_sender : Int) (after_base : Int) (result_err : Int) (result_tx_sender : Int) (result_tx_nonce : Int) (result_tx_tip : Int) (result_tx_cap : Int) (result_tx_gas : Int) (result_tx_data : ByteArray) (result_slots : Int) (p_o2 : List CV) (p_o3 : List (List DV)) (plan_changes : Bool) (plan_delta : Int) (plan_after_sender : Int) (plan_after_base : Int) (p_plan_after_txs : List (List DV)) (m1_o3 : Nat) (plan_result_err : Int) (plan_result_tx_sender : Int) (plan_result_tx_nonce : Int) (plan_result_tx_tip : Int) (plan_result_tx_cap : Int) (plan_result_tx_gas : Int) (plan_result_tx_data : ByteArray) (plan_result_slots : Int) (a_sender : Int) (a_base : Int) (p_a_txs : List (List DV)) (f_ : an_k29_0.σ → Option β) : (an_k29_0.un [.v (.one (.ptr 4 0 0)), .v (.one (.d (.sc (.int .i64 kind)))), .unk, .unk, .unk, .unk, .unk, .unk, .unk, .v (.one (.d (.sl p_v9))), .v (.one (.d (.sc (.int .i64 v10)))), .v (.one (.d (.sc (.int .i64 v11)))), .unk, .unk, .unk, .unk, .unk, .unk, .unk, .unk, .unk, .unk, .unk, .unk, .unk, .unk, .unk, .unk, .unk, .unk, .unk] [.box 38 p_o0, .box 46 [.d (.sc (.bool changes)), .d (.sc (.int .i64 delta)), .d (.sc (.int .i64 after_sender)), .d (.sc (.int .i64 after_base)), .nil, .nil, .d (.sc (.int .i64 result_err)), .d (.sc (.int .i64 result_tx_sender)), .d (.sc (.int .i64 result_tx_nonce)), .d (.sc (.int .i64 result_tx_tip)), .d (.sc (.int .i64 result_tx_cap)), .d (.sc (.int .i64 result_tx_gas)), .d (.sc (.string result_tx_data)), .nil, .d (.sc (.int .i64 result_slots))], .box 38 p_o2, .arr 126 8 p_o3, .box 154 [.d (.sc (.bool plan_changes)), .d (.sc (.int .i64 plan_delta)), .d (.sc (.int .i64 plan_after_sender)), .d (.sc (.int .i64 plan_after_base)), .d (.sl p_plan_after_txs), .own 3 m1_o3, .d (.sc (.int .i64 plan_result_err)), .d (.sc (.int .i64 plan_result_tx_sender)), .d (.sc (.int .i64 plan_result_tx_nonce)), .d (.sc (.int .i64 plan_result_tx_tip)), .d (.sc (.int .i64 plan_result_tx_cap)), .d (.sc (.int .i64 plan_result_tx_gas)), .d (.sc (.string plan_result_tx_data)), .nil, .d (.sc (.int .i64 plan_result_slots)), .d (.sc (.int .i64 a_sender)), .d (.sc (.int .i64 a_base)), .d (.sl p_a_txs)], .nil]).bind f_ = (decL dTx p_v9).bind fun v9 => ((allD p_o0).bind dAcc).bind fun o0 => ((allD p_o2).bind dAcc).bind fun o2 => (decL dEvent p_o3).bind fun o3 => (decL dTx p_plan_after_txs).bind fun plan_after_txs => (decL dTx p_a_txs).bind fun a_txs => (if m1_o3 = o3.length then f_ (L_k29_0.mk kind v9 v10 v11 o0 changes delta after_sender after_base result_err result_tx_sender result_tx_nonce result_tx_tip result_tx_cap result_tx_gas result_tx_data result_slots o2 o3 plan_changes plan_delta plan_after_sender plan_after_base plan_after_txs plan_result_err plan_result_tx_sender plan_result_tx_nonce plan_result_tx_tip plan_result_tx_cap plan_result_tx_gas plan_result_tx_data plan_result_slots a_sender a_base a_txs) else none) :=
  (mkAnn_un (σ := L_k29_0) _ _ _ _ _ _ _ _ _ f_).trans (by simp (maxSteps := 10000000) [Option.bind_assoc, bind_ite])
def T_k29 : List (Nat × LoopA) := [(0, .tr an_k29_0)]
noncomputable def I_k29 : List V1 → Objs → Option (TV × Objs) := Wi C_k29 T_k29 [] Go.Proofs.Tryz.f99
theorem ic_k29 : InlC Go.Proofs.Tryz.prog 99 I_k29 := inlC_of_W E_k29 Go.Proofs.Tryz.func99 rfl rfl
theorem en_k24 : Enters Go.Proofs.Tryz.prog 78 := ⟨_, Go.Proofs.Tryz.func78, rfl, rfl⟩
def ty_k24 : List (Nat × TI) := [(38, { size := 3, bytes := 40, agg := true, zero := [.sc (.int .i64 0), .sc (.int .i64 0), .sl []], kind := .struct [(0, 1, false), (1, 1, false), (2, 1, false)] }), (46, { size := 15, bytes := 176, agg := true, zero := [.sc (.bool false), .sc (.int .i64 0), .sc (.int .i64 0), .sc (.int .i64 0), .sl [], .sl [], .sc (.int .i64 0), .sc (.int .i64 0), .sc (.int .i64 0), .sc (.int .i64 0), .sc (.int .i64 0), .sc (.int .i64 0), .sc (.string "".toByteArray), .sl [], .sc (.int .i64 0)], kind := .struct [(0, 1, false), (1, 1, false), (2, 3, true), (5, 1, false), (6, 9, true)] }), (3, { size := 1, bytes := 8, agg := false, zero := [.sc (.int .i64 0)], kind := .int .i64 }), (40, { size := 1, bytes := 8, agg := false, zero := [.sc (.int .i64 0)], kind := .int .i64 }), (154, { size := 18, bytes := 216, agg := true, zero := [.sc (.bool false), .sc (.int .i64 0), .sc (.int .i64 0), .sc (.int .i64 0), .sl [], .sl [], .sc (.int .i64 0), .sc (.int .i64 0), .sc (.int .i64 0), .sc (.int .i64 0), .sc (.int .i64 0), .sc (.int .i64 0), .sc (.string "".toByteArray), .sl [], .sc (.int .i64 0), .sc (.int .i64 0), .sc (.int .i64 0), .sl []], kind := .struct [(0, 15, true), (15, 3, true)] }), (152, { size := 1, bytes := 8, agg := false, zero := [.sc (.pointer none)], kind := .ptr 154 }), (36, { size := 1, bytes := 24, agg := false, zero := [.sl []], kind := .slice 42 }), (4, { size := 1, bytes := 1, agg := false, zero := [.sc (.bool false)], kind := .bool }), (44, { size := 9, bytes := 96, agg := true, zero := [.sc (.int .i64 0), .sc (.int .i64 0), .sc (.int .i64 0), .sc (.int .i64 0), .sc (.int .i64 0), .sc (.int .i64 0), .sc (.string "".toByteArray), .sl [], .sc (.int .i64 0)], kind := .struct [(0, 1, false), (1, 6, true), (7, 1, false), (8, 1, false)] }), (42, { size := 6, bytes := 56, agg := true, zero := [.sc (.int .i64 0), .sc (.int .i64 0), .sc (.int .i64 0), .sc (.int .i64 0), .sc (.int .i64 0), .sc (.string "".toByteArray)], kind := .struct [(0, 1, false), (1, 1, false), (2, 1, false), (3, 1, false), (4, 1, false), (5, 1, false)] })]
noncomputable def C0_k24 : Cfg := mkC ty_k24 [] [(80, M_k27), (102, M_k30)] [] [(30, [(5, 126, 8)])] [] [] []
noncomputable def C_k24 : Cfg := mkI C0_k24 [(97, I_k2a), (99, I_k29), (100, I_k25)]
theorem E0_k24 : Env1 Go.Proofs.Tryz.prog C0_k24 := mkC_ok (by kernel_rfl) (⟨⟨en_k27, cc_k27⟩, ⟨⟨en_k30, cc_k30⟩, trivial⟩⟩) (by kernel_rfl)
theorem E_k24 : Env1 Go.Proofs.Tryz.prog C_k24 := mkI_ok E0_k24 (⟨⟨en_k2a, ic_k2a⟩, ⟨⟨en_k29, ic_k29⟩, ⟨⟨en_k25, ic_k25⟩, trivial⟩⟩⟩)
theorem C_k24_ty : (C_k24).ty = ty_k24 := rfl
theorem C_k24_eqs : (C_k24).eqs = [] := rfl
theorem C_k24_call : (C_k24).call = fun f => (([(80, M_k27), (102, M_k30)] : List (Nat × (List DA → Option (List RV)))).lookup f).getD fun _ => none := rfl
theorem C_k24_calls : (C_k24).calls = [80, 102] := rfl
theorem C_k24_scal : (C_k24).scal = [] := rfl
theorem C_k24_owns : (C_k24).owns = [(30, [(5, 126, 8)])] := rfl
theorem C_k24_vars : (C_k24).vars = [] := rfl
theorem C_k24_ores : (C_k24).ores = [] := rfl
theorem C_k24_flags : (C_k24).flags = [] := rfl
theorem C_k24_pins : (C_k24).pins = [] := rfl
theorem C_k24_inls : (C_k24).inls = [97, 99, 100] := rfl
theorem C_k24_inl : (C_k24).inl = fun f => (([(97, I_k2a), (99, I_k29), (100, I_k25)] : List (Nat × (List V1 → Objs → Option (TV × Objs)))).lookup f).getD fun _ _ => none := rfl
def T_k24 : List (Nat × LoopA) := []
set_option maxHeartbeats 20000000 in
set_option maxRecDepth 100000 in
noncomputable def pk_k24 : { F : Acc → Int → Option (Plan) // CallC Go.Proofs.Tryz.prog 78 (con2 (eT ceAcc) eInt (fun x0 x1 => (F x0 x1).map (res1 (rAgg cePlan)).enc)) } :=
  ⟨_, cc2 E_k24 Go.Proofs.Tryz.func78 rfl rfl (T := T_k24) (G := []) (r := (res1 (rAgg cePlan))) fun x0 x1 => by
    unfold Wf
    simp (maxSteps := 10000000) (implicitDefEqProofs := false) [-env0, -envI, env0_tree, envI_tree, -evOps, -evOne, -evOp, -evIndexAddr, -evIndex, -evPick, -binV, -evLoad, -evStore, -loadC, -callV, -nilC, -storeC, -toDVs, -toDAs, -resRs, List.lookup, List.replicate, List.range_succ, ty_k24, C_k24_ty, C_k24_eqs, C_k24_call, C_k24_calls, C_k24_scal, C_k24_owns, C_k24_vars, C_k24_ores, C_k24_flags, C_k24_pins, C_k24_inls, C_k24_inl, T_k24, Go.Proofs.Tryz.f78, M_k27, M_k30, iC, uC, bC, sC, Acc.c, Event.c, Plan.c, Planner.c, Result.c, Tx.c, ty_k2a, C_k2a_ty, C_k2a_eqs, C_k2a_call, C_k2a_calls, C_k2a_scal, C_k2a_owns, C_k2a_vars, C_k2a_ores, C_k2a_flags, C_k2a_pins, C_k2a_inls, T_k2a, Go.Proofs.Tryz.f97, M_k37, I_k2a, Wi, ty_k29, C_k29_ty, C_k29_eqs, C_k29_call, C_k29_calls, C_k29_scal, C_k29_owns, C_k29_vars, C_k29_ores, C_k29_flags, C_k29_pins, C_k29_inls, T_k29, Go.Proofs.Tryz.f99, an_k29_0_st, an_k29_0_un, I_k29, ty_k25, C_k25_ty, C_k25_eqs, C_k25_call, C_k25_calls, C_k25_scal, C_k25_owns, C_k25_vars, C_k25_ores, C_k25_flags, C_k25_pins, C_k25_inls, T_k25, Go.Proofs.Tryz.f100, I_k25, mkI]
    try rfl⟩
noncomputable def F_k24 : Acc → Int → Option (Plan) := pk_k24.1
noncomputable def M_k24 : List DA → Option (List RV) := con2 (eT ceAcc) eInt (fun x0 x1 => (F_k24 x0 x1).map (res1 (rAgg cePlan)).enc)
theorem cc_k24 : CallC Go.Proofs.Tryz.prog 78 M_k24 := pk_k24.2
theorem en_k21 : Enters Go.Proofs.Tryz.prog 63 := ⟨_, Go.Proofs.Tryz.func63, rfl, rfl⟩
def ty_k21 : List (Nat × TI) := [(26, { size := 8, bytes := 64, agg := true, zero := [.sc (.int .i64 0), .sc (.int .i64 0), .sc (.int .i64 0), .sc (.int .i64 0), .sc (.int .i64 0), .sc (.int .i64 0), .sc (.int .i64 0), .sc (.int .i64 0)], kind := .struct [(0, 1, false), (1, 1, false), (2, 1, false), (3, 1, false), (4, 1, false), (5, 1, false), (6, 1, false), (7, 1, false)] }), (38, { size := 3, bytes := 40, agg := true, zero := [.sc (.int .i64 0), .sc (.int .i64 0), .sl []], kind := .struct [(0, 1, false), (1, 1, false), (2, 1, false)] }), (35, { size := 5, bytes := 48, agg := true, zero := [.sc (.int .i64 0), .sc (.int .i64 0), .sc (.int .i64 0), .sc (.int .i64 0), .sc (.string "".toByteArray)], kind := .struct [(0, 1, false), (1, 1, false), (2, 1, false), (3, 1, false), (4, 1, false)] }), (46, { size := 15, bytes := 176, agg := true, zero := [.sc (.bool false), .sc (.int .i64 0), .sc (.int .i64 0), .sc (.int .i64 0), .sl [], .sl [], .sc (.int .i64 0), .sc (.int .i64 0), .sc (.int .i64 0), .sc (.int .i64 0), .sc (.int .i64 0), .sc (.int .i64 0), .sc (.string "".toByteArray), .sl [], .sc (.int .i64 0)], kind := .struct [(0, 1, false), (1, 1, false), (2, 3, true), (5, 1, false), (6, 9, true)] }), (3, { size := 1, bytes := 8, agg := false, zero := [.sc (.int .i64 0)], kind := .int .i64 }), (9, { size := 1, bytes := 16, agg := false, zero := [.sc (.string "".toByteArray)], kind := .str }), (40, { size := 1, bytes := 8, agg := false, zero := [.sc (.int .i64 0)], kind := .int .i64 })]
noncomputable def C_k21 : Cfg := mkC ty_k21 [] [(76, M_k23), (77, M_k1f), (78, M_k24), (79, M_k26), (80, M_k27)] [] [] [] [] []
theorem E_k21 : Env1 Go.Proofs.Tryz.prog C_k21 := mkC_ok (by kernel_rfl) (⟨⟨en_k23, cc_k23⟩, ⟨⟨en_k1f, cc_k1f⟩, ⟨⟨en_k24, cc_k24⟩, ⟨⟨en_k26, cc_k26⟩, ⟨⟨en_k27, cc_k27⟩, trivial⟩⟩⟩⟩⟩) (by kernel_rfl)
theorem C_k21_ty : (C_k21).ty = ty_k21 := rfl
theorem C_k21_eqs : (C_k21).eqs = [] := rfl
theorem C_k21_call : (C_k21).call = fun f => (([(76, M_k23), (77, M_k1f), (78, M_k24), (79, M_k26), (80, M_k27)] : List (Nat × (List DA → Option (List RV)))).lookup f).getD fun _ => none := rfl
theorem C_k21_calls : (C_k21).calls = [76, 77, 78, 79, 80] := rfl
theorem C_k21_scal : (C_k21).scal = [] := rfl
theorem C_k21_owns : (C_k21).owns = [] := rfl
theorem C_k21_vars : (C_k21).vars = [] := rfl
theorem C_k21_ores : (C_k21).ores = [] := rfl
theorem C_k21_flags : (C_k21).flags = [] := rfl
theorem C_k21_pins : (C_k21).pins = [] := rfl
theorem C_k21_inls : (C_k21).inls = [] := rfl
def T_k21 : List (Nat × LoopA) := []
set_option maxHeartbeats 20000000 in
set_option maxRecDepth 100000 in
noncomputable def pk_k21 : { F : Config → Acc → Op → Option (Plan) // CallC Go.Proofs.Tryz.prog 63 (con3 (eT ceConfig) (eT ceAcc) (eT ceOp) (fun x0 x1 x2 => (F x0 x1 x2).map (res1 (rAgg cePlan)).enc)) } :=
  ⟨_, cc3 E_k21 Go.Proofs.Tryz.func63 rfl rfl (T := T_k21) (G := []) (r := (res1 (rAgg cePlan))) fun x0 x1 x2 => by
    unfold Wf
    simp (maxSteps := 10000000) (implicitDefEqProofs := false) [-env0, -envI, env0_tree, envI_tree, -evOps, -evOne, -evOp, -evIndexAddr, -evIndex, -evPick, -binV, -evLoad, -evStore, -loadC, -callV, -nilC, -storeC, -toDVs, -toDAs, -resRs, List.lookup, List.replicate, List.range_succ, ty_k21, C_k21_ty, C_k21_eqs, C_k21_call, C_k21_calls, C_k21_scal, C_k21_owns, C_k21_vars, C_k21_ores, C_k21_flags, C_k21_pins, C_k21_inls, T_k21, Go.Proofs.Tryz.f63, M_k23, M_k1f, M_k24, M_k26, M_k27, iC, uC, bC, sC, Acc.c, Config.c, Event.c, Op.c, Plan.c, Result.c, Tx.c]
    try rfl⟩
noncomputable def F_k21 : Config → Acc → Op → Option (Plan) := pk_k21.1
noncomputable def M_k21 : List DA → Option (List RV) := con3 (eT ceConfig) (eT ceAcc) (eT ceOp) (fun x0 x1 x2 => (F_k21 x0 x1 x2).map (res1 (rAgg cePlan)).enc)
theorem cc_k21 : CallC Go.Proofs.Tryz.prog 63 M_k21 := pk_k21.2

end Go.Vm
