/- What Go functions come to, as Lean functions: each with its contract. -/
import Derived.Test.YtmdccbecmilljaaGreatD
import Derived.Test.YtmdccbecmilljaaGreatWa
import Derived.Test.YtmdccbecmilljaaGreatVd
import Derived.Test.YtmdccbecmilljaaGreatProg

set_option linter.unusedVariables false
set_option linter.unusedSimpArgs false
namespace Go.Vm
open Go Go.RowKit

theorem en_k15 : Enters Go.Proofs.Tryz.prog 4 := ⟨_, Go.Proofs.Tryz.func4, rfl, rfl⟩
def ty_k15 : List (Nat × TI) := [(23, { size := 5, bytes := 48, agg := true, zero := [.sc (.int .i64 0), .sc (.int .i64 0), .sc (.int .i64 0), .sc (.int .i64 0), .sc (.string "".toByteArray)], kind := .struct [(0, 1, false), (1, 1, false), (2, 1, false), (3, 1, false), (4, 1, false)] }), (32, { size := 12, bytes := 128, agg := true, zero := [.sc (.int .i64 0), .sc (.int .i64 0), .sc (.int .i64 0), .sc (.int .i64 0), .sc (.int .i64 0), .sc (.int .i64 0), .sc (.int .i64 0), .sc (.int .i64 0), .sl [], .sc (.int .i64 0), .sc (.int .i64 0), .sl []], kind := .struct [(0, 8, true), (8, 1, false), (9, 2, true), (11, 1, false)] }), (9, { size := 1, bytes := 16, agg := false, zero := [.sc (.string "".toByteArray)], kind := .str }), (3, { size := 1, bytes := 8, agg := false, zero := [.sc (.int .i64 0)], kind := .int .i64 }), (35, { size := 5, bytes := 48, agg := true, zero := [.sc (.int .i64 0), .sc (.int .i64 0), .sc (.int .i64 0), .sc (.int .i64 0), .sc (.string "".toByteArray)], kind := .struct [(0, 1, false), (1, 1, false), (2, 1, false), (3, 1, false), (4, 1, false)] }), (48, { size := 32, bytes := 344, agg := true, zero := [.sc (.int .i64 0), .sc (.int .i64 0), .sc (.int .i64 0), .sc (.int .i64 0), .sc (.string "".toByteArray), .sc (.int .i64 0), .sc (.int .i64 0), .sc (.bool false), .sc (.int .i64 0), .sc (.int .i64 0), .sc (.int .i64 0), .sl [], .sl [], .sc (.int .i64 0), .sc (.int .i64 0), .sc (.int .i64 0), .sc (.int .i64 0), .sc (.int .i64 0), .sc (.int .i64 0), .sc (.string "".toByteArray), .sl [], .sc (.int .i64 0), .sc (.int .i64 0), .sc (.int .i64 0), .sc (.int .i64 0), .sc (.int .i64 0), .sc (.int .i64 0), .sc (.int .i64 0), .sc (.string "".toByteArray), .sl [], .sc (.int .i64 0), .sc (.bool false)], kind := .struct [(0, 5, true), (5, 1, false), (6, 1, false), (7, 15, true), (22, 9, true), (31, 1, false)] }), (54, { size := 12, bytes := 128, agg := true, zero := [.sc (.int .i64 0), .sc (.int .i64 0), .sc (.int .i64 0), .sc (.int .i64 0), .sc (.int .i64 0), .sc (.int .i64 0), .sc (.int .i64 0), .sc (.int .i64 0), .sl [], .sc (.int .i64 0), .sc (.int .i64 0), .sl []], kind := .struct [(0, 8, true), (8, 1, false), (9, 2, true), (11, 1, false)] }), (44, { size := 9, bytes := 96, agg := true, zero := [.sc (.int .i64 0), .sc (.int .i64 0), .sc (.int .i64 0), .sc (.int .i64 0), .sc (.int .i64 0), .sc (.int .i64 0), .sc (.string "".toByteArray), .sl [], .sc (.int .i64 0)], kind := .struct [(0, 1, false), (1, 6, true), (7, 1, false), (8, 1, false)] }), (4, { size := 1, bytes := 1, agg := false, zero := [.sc (.bool false)], kind := .bool }), (39, { size := 1, bytes := 24, agg := false, zero := [.sl []], kind := .slice 126 }), (62, { size := 9, bytes := 96, agg := true, zero := [.sc (.int .i64 0), .sc (.int .i64 0), .sc (.int .i64 0), .sc (.int .i64 0), .sc (.int .i64 0), .sc (.int .i64 0), .sc (.string "".toByteArray), .sl [], .sc (.int .i64 0)], kind := .struct [(0, 1, false), (1, 6, true), (7, 1, false), (8, 1, false)] }), (27, { size := 1, bytes := 24, agg := false, zero := [.sl []], kind := .slice 3 }), (126, { size := 8, bytes := 72, agg := true, zero := [.sc (.int .i64 0), .sc (.int .i64 0), .sc (.int .i64 0), .sc (.int .i64 0), .sc (.int .i64 0), .sc (.int .i64 0), .sc (.string "".toByteArray), .sc (.int .i64 0)], kind := .struct [(0, 1, false), (1, 6, true), (7, 1, false)] })]
noncomputable def C_k15 : Cfg := mkC ty_k15 [] [(5, M_k69), (6, M_k66), (7, M_k18), (8, M_k84), (9, M_k13), (11, M_k86), (17, M_k5c), (12, M_k17), (13, M_k68)] [5, 6, 7, 17, 13] [(9, [(7, 0, 0)])] [1,5,7,8,9,10,999999] [] []
theorem E_k15 : Env1 Go.Proofs.Tryz.prog C_k15 := mkC_ok (by kernel_rfl) (⟨⟨en_k69, cc_k69⟩, ⟨⟨en_k66, cc_k66⟩, ⟨⟨en_k18, cc_k18⟩, ⟨⟨en_k84, cc_k84⟩, ⟨⟨en_k13, cc_k13⟩, ⟨⟨en_k86, cc_k86⟩, ⟨⟨en_k5c, cc_k5c⟩, ⟨⟨en_k17, cc_k17⟩, ⟨⟨en_k68, cc_k68⟩, trivial⟩⟩⟩⟩⟩⟩⟩⟩⟩) (by kernel_rfl)
theorem C_k15_ty : (C_k15).ty = ty_k15 := rfl
theorem C_k15_eqs : (C_k15).eqs = [] := rfl
theorem C_k15_call : (C_k15).call = fun f => (([(5, M_k69), (6, M_k66), (7, M_k18), (8, M_k84), (9, M_k13), (11, M_k86), (17, M_k5c), (12, M_k17), (13, M_k68)] : List (Nat × (List DA → Option (List RV)))).lookup f).getD fun _ => none := rfl
theorem C_k15_calls : (C_k15).calls = [5, 6, 7, 8, 9, 11, 17, 12, 13] := rfl
theorem C_k15_scal : (C_k15).scal = [5, 6, 7, 17, 13] := rfl
theorem C_k15_owns : (C_k15).owns = [(9, [(7, 0, 0)])] := rfl
theorem C_k15_vars : (C_k15).vars = [1,5,7,8,9,10,999999] := rfl
theorem C_k15_ores : (C_k15).ores = [] := rfl
theorem C_k15_flags : (C_k15).flags = [] := rfl
theorem C_k15_pins : (C_k15).pins = [] := rfl
theorem C_k15_inls : (C_k15).inls = [] := rfl
structure L_k15_0 where
  who : Int
  i : Int
  o0 : Op
  s_ : Sight
  t : Task
  x : Sight
  r : Result
def an_k15_0 : Ann := mkAnn (σ := L_k15_0) (lSkip vUnk <| lCons (vOne cI) <| lSkip vUnk <| lSkip vUnk <| lSkip vUnk <| lSkip (vOne (cPtr 1 0 0)) <| lSkip vUnk <| lSkip (vOne (cPtr 2 0 0)) <| lSkip (vOne (cPtr 3 0 0)) <| lSkip (vOne (cPtr 4 0 0)) <| lCons (vOne cI) <| lSkip vUnk <| lSkip vUnk <| lSkip vUnk <| lSkip vUnk <| lSkip vUnk <| lSkip vUnk <| lSkip vUnk <| lSkip vUnk <| lSkip vUnk <| lSkip vUnk <| lSkip vUnk <| lSkip vUnk <| lSkip vUnk <| lSkip vUnk <| lSkip vUnk <| lSkip vUnk <| lSkip vUnk <| lSkip vUnk <| lSkip vUnk <| lSkip vUnk <| lSkip vUnk <| lSkip vUnk <| lSkip vUnk <| lSkip vUnk <| lSkip vUnk <| lSkip vUnk <| lSkip vUnk <| lSkip vUnk <| lSkip vUnk <| lSkip vUnk <| lSkip vUnk <| lSkip vUnk <| lSkip vUnk <| lSkip vUnk <| lSkip vUnk <| lSkip vUnk <| lSkip vUnk <| lSkip vUnk <| lSkip vUnk <| lSkip vUnk <| lSkip vUnk <| lSkip vUnk <| lSkip vUnk <| lSkip vUnk <| lSkip vUnk <| lSkip vUnk <| lSkip vUnk <| lSkip vUnk <| lSkip vUnk <| lSkip vUnk <| lSkip vUnk <| lSkip vUnk <| lSkip vUnk <| lSkip vUnk <| lSkip vUnk <| lSkip vUnk <| lSkip vUnk <| lSkip vUnk <| lSkip vUnk <| lSkip vUnk <| lSkip vUnk <| lSkip vUnk <| lSkip vUnk <| lSkip vUnk <| lSkip vUnk <| lSkip vUnk <| lSkip vUnk <| lSkip vUnk <| lSkip vUnk <| lSkip vUnk <| lSkip vUnk <| lSkip vUnk <| lSkip vUnk <| lSkip vUnk <| lSkip vUnk <| lSkip vUnk <| lSkip vUnk <| lSkip vUnk <| lSkip vUnk <| lSkip vUnk <| lSkip vUnk <| lSkip vUnk <| lSkip vUnk <| lSkip vUnk <| lSkip vUnk <| lSkip vUnk <| lSkip vUnk <| lSkip vUnk <| lSkip vUnk <| lSkip vUnk <| lSkip vUnk <| lSkip vUnk <| lSkip vUnk <| lSkip vUnk <| lSkip vUnk <|  lNil) (lCons (oBox 23 (cStr ceOp)) <| lCons (oBox 32 (cStr ceSight)) <| lCons (oBox 48 (cStr ceTask)) <| lCons (oBox 54 (cStr ceSight)) <| lCons (oBox 44 (cStr ceResult)) <|  lNil)
  (fun a b => L_k15_0.mk (a.1) (a.2.1) (b.1) (b.2.1) (b.2.2.1) (b.2.2.2.1) (b.2.2.2.2.1)) (fun s => (s.who, s.i, ())) (fun s => (s.o0, s.s_, s.t, s.x, s.r, ())) (fun a b => true) (fun _ _ _ => ⟨rfl, rfl⟩)
set_option maxRecDepth 100000 in
theorem an_k15_0_st (s : an_k15_0.σ) : an_k15_0.st s = (toL 106 (.node (.node (.node (.node (.node (.node (.node (.node (.leaf (.unk)) (.leaf (.v (.one (.d (.sc (.int .i64 (L_k15_0.who s)))))))) (.leaf (.unk))) (.node (.node (.leaf (.unk)) (.leaf (.v (.one (.ptr 1 0 0))))) (.node (.leaf (.unk)) (.leaf (.v (.one (.ptr 2 0 0))))))) (.node (.node (.node (.leaf (.v (.one (.ptr 3 0 0)))) (.leaf (.v (.one (.ptr 4 0 0))))) (.node (.leaf (.v (.one (.d (.sc (.int .i64 (L_k15_0.i s))))))) (.leaf (.unk)))) (.leaf (.unk)))) (.leaf (.unk))) (.leaf (.unk))) (.leaf (.unk))) (.leaf (.unk))), [.box 23 (ddv (Op.c (L_k15_0.o0 s))), .box 32 (ddv (Sight.c (L_k15_0.s_ s))), .box 48 (ddv (Task.c (L_k15_0.t s))), .box 54 (ddv (Sight.c (L_k15_0.x s))), .box 44 (ddv (Result.c (L_k15_0.r s)))]) := rfl
set_option maxHeartbeats 4000000 in
set_option maxRecDepth 100000 in
theorem an_k15_0_un {β : Type} (who : Int) (i : Int) (p_o0 : List CV) (p_s_ : List CV) (p_t : List CV) (p_x : List CV) (p_r : List CV) (f_ : an_k15_0.σ → Option β) : (an_k15_0.un [.unk, .v (.one (.d (.sc (.int .i64 who)))), .unk, .unk, .unk, .v (.one (.ptr 1 0 0)), .unk, .v (.one (.ptr 2 0 0)), .v (.one (.ptr 3 0 0)), .v (.one (.ptr 4 0 0)), .v (.one (.d (.sc (.int .i64 i)))), .unk, .unk, .unk, .unk, .unk, .unk, .unk, .unk, .unk, .unk, .unk, .unk, .unk, .unk, .unk, .unk, .unk, .unk, .unk, .unk, .unk, .unk, .unk, .unk, .unk, .unk, .unk, .unk, .unk, .unk, .unk, .unk, .unk, .unk, .unk, .unk, .unk, .unk, .unk, .unk, .unk, .unk, .unk, .unk, .unk, .unk, .unk, .unk, .unk, .unk, .unk, .unk, .unk, .unk, .unk, .unk, .unk, .unk, .unk, .unk, .unk, .unk, .unk, .unk, .unk, .unk, .unk, .unk, .unk, .unk, .unk, .unk, .unk, .unk, .unk, .unk, .unk, .unk, .unk, .unk, .unk, .unk, .unk, .unk, .unk, .unk, .unk, .unk, .unk, .unk, .unk, .unk, .unk, .unk, .unk] [.box 23 p_o0, .box 32 p_s_, .box 48 p_t, .box 54 p_x, .box 44 p_r]).bind f_ = ((allD p_o0).bind dOp).bind fun o0 => ((allD p_s_).bind dSight).bind fun s_ => ((allD p_t).bind dTask).bind fun t => ((allD p_x).bind dSight).bind fun x => ((allD p_r).bind dResult).bind fun r => f_ (L_k15_0.mk who i o0 s_ t x r) :=
  (mkAnn_un (σ := L_k15_0) _ _ _ _ _ _ _ _ _ f_).trans (by simp (maxSteps := 10000000) [Option.bind_assoc])
def T_k15 : List (Nat × LoopA) := [(0, .ty an_k15_0)]
set_option maxHeartbeats 20000000 in
set_option maxRecDepth 100000 in
noncomputable def pk_k15 : { F : Op → Int → Sight → Option (Bool) // CallC Go.Proofs.Tryz.prog 4 (con3 (eT ceOp) eInt (eT ceSight) (fun x0 x1 x2 => (F x0 x1 x2).map (res1 rB).enc)) } :=
  ⟨_, cc3 E_k15 Go.Proofs.Tryz.func4 rfl rfl (T := T_k15) (G := []) (r := (res1 rB)) fun x0 x1 x2 => by
    unfold Wf
    simp (maxSteps := 10000000) (implicitDefEqProofs := false) [-env0, -envI, env0_tree, envI_tree, -evOps, -evOne, -evOp, -evIndexAddr, -evIndex, -evPick, -binV, -evLoad, -evStore, -loadC, -callV, -nilC, -storeC, -toDVs, -toDAs, -resRs, List.lookup, List.replicate, List.range_succ, ty_k15, C_k15_ty, C_k15_eqs, C_k15_call, C_k15_calls, C_k15_scal, C_k15_owns, C_k15_vars, C_k15_ores, C_k15_flags, C_k15_pins, C_k15_inls, T_k15, Go.Proofs.Tryz.f4, M_k69, M_k66, M_k18, M_k84, M_k13, M_k86, M_k5c, M_k17, M_k68, an_k15_0_st, an_k15_0_un, iC, uC, bC, sC, Acc.c, Config.c, Event.c, Op.c, Plan.c, Pot.c, Result.c, Shard.c, Sight.c, Task.c, Tx.c]
    try rfl⟩
noncomputable def F_k15 : Op → Int → Sight → Option (Bool) := pk_k15.1
noncomputable def M_k15 : List DA → Option (List RV) := con3 (eT ceOp) eInt (eT ceSight) (fun x0 x1 x2 => (F_k15 x0 x1 x2).map (res1 rB).enc)
theorem cc_k15 : CallC Go.Proofs.Tryz.prog 4 M_k15 := pk_k15.2

end Go.Vm
