/- What Go functions come to, as Lean functions: each with its contract. -/
import Derived.Test.YtmdccbecmilljaaGreatYa
import Derived.Test.YtmdccbecmilljaaGreatWa
import Derived.Test.YtmdccbecmilljaaGreatVd
import Derived.Test.YtmdccbecmilljaaGreatProg

set_option linter.unusedVariables false
set_option linter.unusedSimpArgs false
namespace Go.Vm
open Go Go.RowKit

theorem en_k6d : Enters Go.Proofs.Tryz.prog 43 := ⟨_, Go.Proofs.Tryz.func43, rfl, rfl⟩
def ty_k6d : List (Nat × TI) := [(82, { size := 2, bytes := 32, agg := true, zero := [.sl [], .sc (.int .i64 0)], kind := .struct [(0, 1, false), (1, 1, false)] }), (26, { size := 8, bytes := 64, agg := true, zero := [.sc (.int .i64 0), .sc (.int .i64 0), .sc (.int .i64 0), .sc (.int .i64 0), .sc (.int .i64 0), .sc (.int .i64 0), .sc (.int .i64 0), .sc (.int .i64 0)], kind := .struct [(0, 1, false), (1, 1, false), (2, 1, false), (3, 1, false), (4, 1, false), (5, 1, false), (6, 1, false), (7, 1, false)] }), (3, { size := 1, bytes := 8, agg := false, zero := [.sc (.int .i64 0)], kind := .int .i64 }), (69, { size := 1, bytes := 24, agg := false, zero := [.sl []], kind := .slice 38 }), (38, { size := 3, bytes := 40, agg := true, zero := [.sc (.int .i64 0), .sc (.int .i64 0), .sl []], kind := .struct [(0, 1, false), (1, 1, false), (2, 1, false)] })]
noncomputable def C_k6d : Cfg := mkC ty_k6d [] [(58, M_k31), (59, M_k72), (44, M_k0b)] [58, 59, 44] [] [1,5,7,19,20,21] [] []
theorem E_k6d : Env1 Go.Proofs.Tryz.prog C_k6d := mkC_ok (by kernel_rfl) (⟨⟨en_k31, cc_k31⟩, ⟨⟨en_k72, cc_k72⟩, ⟨⟨en_k0b, cc_k0b⟩, trivial⟩⟩⟩) (by kernel_rfl)
theorem C_k6d_ty : (C_k6d).ty = ty_k6d := rfl
theorem C_k6d_eqs : (C_k6d).eqs = [] := rfl
theorem C_k6d_call : (C_k6d).call = fun f => (([(58, M_k31), (59, M_k72), (44, M_k0b)] : List (Nat × (List DA → Option (List RV)))).lookup f).getD fun _ => none := rfl
theorem C_k6d_calls : (C_k6d).calls = [58, 59, 44] := rfl
theorem C_k6d_scal : (C_k6d).scal = [58, 59, 44] := rfl
theorem C_k6d_owns : (C_k6d).owns = [] := rfl
theorem C_k6d_vars : (C_k6d).vars = [1,5,7,19,20,21] := rfl
theorem C_k6d_ores : (C_k6d).ores = [] := rfl
theorem C_k6d_flags : (C_k6d).flags = [] := rfl
theorem C_k6d_pins : (C_k6d).pins = [] := rfl
theorem C_k6d_inls : (C_k6d).inls = [] := rfl
structure L_k6d_0 where
  k : Int
  last : Int
  v19 : List Acc
  v20 : Int
  v21 : Int
  o0 : Shard
  c : Config
def an_k6d_0 : Ann := mkAnn (σ := L_k6d_0) (lSkip vUnk <| lCons (vOne cI) <| lSkip vUnk <| lSkip vUnk <| lSkip vUnk <| lSkip (vOne (cPtr 1 0 0)) <| lSkip vUnk <| lCons (vOne cI) <| lSkip vUnk <| lSkip vUnk <| lSkip vUnk <| lSkip vUnk <| lSkip vUnk <| lSkip vUnk <| lSkip vUnk <| lSkip vUnk <| lSkip vUnk <| lSkip vUnk <| lSkip vUnk <| lCons (vOne (cSl ceAcc)) <| lCons (vOne cI) <| lCons (vOne cI) <| lSkip vUnk <| lSkip vUnk <| lSkip vUnk <| lSkip vUnk <| lSkip vUnk <| lSkip vUnk <| lSkip vUnk <| lSkip vUnk <| lSkip vUnk <| lSkip vUnk <| lSkip vUnk <| lSkip vUnk <| lSkip vUnk <| lSkip vUnk <| lSkip vUnk <| lSkip vUnk <| lSkip vUnk <| lSkip vUnk <| lSkip vUnk <| lSkip vUnk <| lSkip vUnk <| lSkip vUnk <| lSkip vUnk <| lSkip vUnk <| lSkip vUnk <| lSkip vUnk <| lSkip vUnk <| lSkip vUnk <| lSkip vUnk <| lSkip vUnk <|  lNil) (lCons (oBox 82 (cStr ceShard)) <| lCons (oBox 26 (cStr ceConfig)) <|  lNil)
  (fun a b => L_k6d_0.mk (a.1) (a.2.1) (a.2.2.1) (a.2.2.2.1) (a.2.2.2.2.1) (b.1) (b.2.1)) (fun s => (s.k, s.last, s.v19, s.v20, s.v21, ())) (fun s => (s.o0, s.c, ())) (fun a b => true) (fun _ _ _ => ⟨rfl, rfl⟩)
set_option maxRecDepth 100000 in
theorem an_k6d_0_st (s : an_k6d_0.σ) : an_k6d_0.st s = (toL 52 (.node (.node (.node (.node (.node (.node (.node (.node (.leaf (.unk)) (.leaf (.v (.one (.d (.sc (.int .i64 (L_k6d_0.k s)))))))) (.leaf (.unk))) (.node (.node (.leaf (.unk)) (.leaf (.v (.one (.ptr 1 0 0))))) (.node (.leaf (.unk)) (.leaf (.v (.one (.d (.sc (.int .i64 (L_k6d_0.last s)))))))))) (.leaf (.unk))) (.node (.node (.node (.leaf (.unk)) (.node (.leaf (.unk)) (.leaf (.v (.one (.d (.sl ((L_k6d_0.v19 s).map Acc.c)))))))) (.node (.node (.leaf (.v (.one (.d (.sc (.int .i64 (L_k6d_0.v20 s))))))) (.leaf (.v (.one (.d (.sc (.int .i64 (L_k6d_0.v21 s)))))))) (.leaf (.unk)))) (.leaf (.unk)))) (.leaf (.unk))) (.leaf (.unk))) (.leaf (.unk))), [.box 82 (ddv (Shard.c (L_k6d_0.o0 s))), .box 26 (ddv (Config.c (L_k6d_0.c s)))]) := rfl
set_option maxHeartbeats 4000000 in
set_option maxRecDepth 100000 in
theorem an_k6d_0_un {β : Type} (k : Int) (last : Int) (p_v19 : List (List DV)) (v20 : Int) (v21 : Int) (p_o0 : List CV) (p_c : List CV) (f_ : an_k6d_0.σ → Option β) : (an_k6d_0.un [.unk, .v (.one (.d (.sc (.int .i64 k)))), .unk, .unk, .unk, .v (.one (.ptr 1 0 0)), .unk, .v (.one (.d (.sc (.int .i64 last)))), .unk, .unk, .unk, .unk, .unk, .unk, .unk, .unk, .unk, .unk, .unk, .v (.one (.d (.sl p_v19))), .v (.one (.d (.sc (.int .i64 v20)))), .v (.one (.d (.sc (.int .i64 v21)))), .unk, .unk, .unk, .unk, .unk, .unk, .unk, .unk, .unk, .unk, .unk, .unk, .unk, .unk, .unk, .unk, .unk, .unk, .unk, .unk, .unk, .unk, .unk, .unk, .unk, .unk, .unk, .unk, .unk, .unk] [.box 82 p_o0, .box 26 p_c]).bind f_ = (decL dAcc p_v19).bind fun v19 => ((allD p_o0).bind dShard).bind fun o0 => ((allD p_c).bind dConfig).bind fun c => f_ (L_k6d_0.mk k last v19 v20 v21 o0 c) :=
  (mkAnn_un (σ := L_k6d_0) _ _ _ _ _ _ _ _ _ f_).trans (by simp (maxSteps := 10000000) [Option.bind_assoc])
def T_k6d : List (Nat × LoopA) := [(0, .ty an_k6d_0)]
set_option maxHeartbeats 20000000 in
set_option maxRecDepth 100000 in
noncomputable def pk_k6d : { F : Shard → Int → Config → Option (Bool) // CallC Go.Proofs.Tryz.prog 43 (con3 (eT ceShard) eInt (eT ceConfig) (fun x0 x1 x2 => (F x0 x1 x2).map (res1 rB).enc)) } :=
  ⟨_, cc3 E_k6d Go.Proofs.Tryz.func43 rfl rfl (T := T_k6d) (G := []) (r := (res1 rB)) fun x0 x1 x2 => by
    unfold Wf
    simp (maxSteps := 10000000) (implicitDefEqProofs := false) [-env0, -envI, env0_tree, envI_tree, -evOps, -evOne, -evOp, -evIndexAddr, -evIndex, -evPick, -binV, -evLoad, -evStore, -loadC, -callV, -nilC, -storeC, -toDVs, -toDAs, -resRs, List.lookup, List.replicate, List.range_succ, ty_k6d, C_k6d_ty, C_k6d_eqs, C_k6d_call, C_k6d_calls, C_k6d_scal, C_k6d_owns, C_k6d_vars, C_k6d_ores, C_k6d_flags, C_k6d_pins, C_k6d_inls, T_k6d, Go.Proofs.Tryz.f43, M_k31, M_k72, M_k0b, an_k6d_0_st, an_k6d_0_un, iC, uC, bC, sC, Acc.c, Config.c, Shard.c, Tx.c]
    try rfl⟩
noncomputable def F_k6d : Shard → Int → Config → Option (Bool) := pk_k6d.1
noncomputable def M_k6d : List DA → Option (List RV) := con3 (eT ceShard) eInt (eT ceConfig) (fun x0 x1 x2 => (F_k6d x0 x1 x2).map (res1 rB).enc)
theorem cc_k6d : CallC Go.Proofs.Tryz.prog 43 M_k6d := pk_k6d.2
theorem en_k56 : Enters Go.Proofs.Tryz.prog 20 := ⟨_, Go.Proofs.Tryz.func20, rfl, rfl⟩
def ty_k56 : List (Nat × TI) := [(71, { size := 2, bytes := 32, agg := true, zero := [.sl [], .sc (.int .i64 0)], kind := .struct [(0, 1, false), (1, 1, false)] }), (26, { size := 8, bytes := 64, agg := true, zero := [.sc (.int .i64 0), .sc (.int .i64 0), .sc (.int .i64 0), .sc (.int .i64 0), .sc (.int .i64 0), .sc (.int .i64 0), .sc (.int .i64 0), .sc (.int .i64 0)], kind := .struct [(0, 1, false), (1, 1, false), (2, 1, false), (3, 1, false), (4, 1, false), (5, 1, false), (6, 1, false), (7, 1, false)] }), (3, { size := 1, bytes := 8, agg := false, zero := [.sc (.int .i64 0)], kind := .int .i64 }), (69, { size := 1, bytes := 24, agg := false, zero := [.sl []], kind := .slice 38 }), (38, { size := 3, bytes := 40, agg := true, zero := [.sc (.int .i64 0), .sc (.int .i64 0), .sl []], kind := .struct [(0, 1, false), (1, 1, false), (2, 1, false)] })]
noncomputable def C_k56 : Cfg := mkC ty_k56 [] [(34, M_k4c), (35, M_k59), (36, M_k3e)] [34, 35, 36] [] [1,3,5,7] [] [(7, [true, true, true, false, true, true, false, false, true, true, true, true, true, true, false, true, true, true, true, true, true, true, true, true, true, true, true, true, true, true, true, true, true, true])]
theorem E_k56 : Env1 Go.Proofs.Tryz.prog C_k56 := mkC_ok (by kernel_rfl) (⟨⟨en_k4c, cc_k4c⟩, ⟨⟨en_k59, cc_k59⟩, ⟨⟨en_k3e, cc_k3e⟩, trivial⟩⟩⟩) (by kernel_rfl)
theorem C_k56_ty : (C_k56).ty = ty_k56 := rfl
theorem C_k56_eqs : (C_k56).eqs = [] := rfl
theorem C_k56_call : (C_k56).call = fun f => (([(34, M_k4c), (35, M_k59), (36, M_k3e)] : List (Nat × (List DA → Option (List RV)))).lookup f).getD fun _ => none := rfl
theorem C_k56_calls : (C_k56).calls = [34, 35, 36] := rfl
theorem C_k56_scal : (C_k56).scal = [34, 35, 36] := rfl
theorem C_k56_owns : (C_k56).owns = [] := rfl
theorem C_k56_vars : (C_k56).vars = [1,3,5,7] := rfl
theorem C_k56_ores : (C_k56).ores = [] := rfl
theorem C_k56_flags : (C_k56).flags = [(7, [true, true, true, false, true, true, false, false, true, true, true, true, true, true, false, true, true, true, true, true, true, true, true, true, true, true, true, true, true, true, true, true, true, true])] := rfl
theorem C_k56_pins : (C_k56).pins = [] := rfl
theorem C_k56_inls : (C_k56).inls = [] := rfl
structure L_k56_0 where
  k : Int
  i : Int
  s_ : Shard
  c : Config
def an_k56_0 : Ann := mkAnn (σ := L_k56_0) (lSkip vUnk <| lCons (vOne cI) <| lSkip vUnk <| lSkip (vOne (cPtr 0 0 0)) <| lSkip vUnk <| lSkip (vOne (cPtr 1 0 0)) <| lSkip vUnk <| lCons (vOne cI) <| lSkip vUnk <| lSkip vUnk <| lSkip vUnk <| lSkip vUnk <| lSkip vUnk <| lSkip vUnk <| lSkip vUnk <| lSkip vUnk <| lSkip vUnk <| lSkip vUnk <| lSkip vUnk <| lSkip vUnk <| lSkip vUnk <| lSkip vUnk <| lSkip vUnk <| lSkip vUnk <| lSkip vUnk <| lSkip vUnk <| lSkip vUnk <| lSkip vUnk <| lSkip vUnk <| lSkip vUnk <| lSkip vUnk <| lSkip vUnk <| lSkip vUnk <| lSkip vUnk <| lSkip vUnk <| lSkip vUnk <| lSkip vUnk <| lSkip vUnk <| lSkip vUnk <| lSkip vUnk <| lSkip vUnk <| lSkip vUnk <| lSkip vUnk <| lSkip vUnk <| lSkip vUnk <| lSkip vUnk <| lSkip vUnk <| lSkip vUnk <| lSkip vUnk <| lSkip vUnk <| lSkip vUnk <| lSkip vUnk <| lSkip vUnk <| lSkip vUnk <| lSkip vUnk <| lSkip vUnk <| lSkip vUnk <| lSkip vUnk <| lSkip vUnk <| lSkip vUnk <| lSkip vUnk <| lSkip vUnk <| lSkip vUnk <|  lNil) (lCons (oBox 71 (cStr ceShard)) <| lCons (oBox 26 (cStr ceConfig)) <|  lNil)
  (fun a b => L_k56_0.mk (a.1) (a.2.1) (b.1) (b.2.1)) (fun s => (s.k, s.i, ())) (fun s => (s.s_, s.c, ())) (fun a b => true) (fun _ _ _ => ⟨rfl, rfl⟩)
set_option maxRecDepth 100000 in
theorem an_k56_0_st (s : an_k56_0.σ) : an_k56_0.st s = (toL 63 (.node (.node (.node (.node (.node (.node (.node (.node (.leaf (.unk)) (.leaf (.v (.one (.d (.sc (.int .i64 (L_k56_0.k s)))))))) (.node (.leaf (.unk)) (.leaf (.v (.one (.ptr 0 0 0)))))) (.node (.node (.leaf (.unk)) (.leaf (.v (.one (.ptr 1 0 0))))) (.node (.leaf (.unk)) (.leaf (.v (.one (.d (.sc (.int .i64 (L_k56_0.i s)))))))))) (.leaf (.unk))) (.leaf (.unk))) (.leaf (.unk))) (.leaf (.unk))) (.leaf (.unk))), [.box 71 (ddv (Shard.c (L_k56_0.s_ s))), .box 26 (ddv (Config.c (L_k56_0.c s)))]) := rfl
set_option maxHeartbeats 4000000 in
set_option maxRecDepth 100000 in
theorem an_k56_0_un {β : Type} (k : Int) (i : Int) (p_s_ : List CV) (p_c : List CV) (f_ : an_k56_0.σ → Option β) : (an_k56_0.un [.unk, .v (.one (.d (.sc (.int .i64 k)))), .unk, .v (.one (.ptr 0 0 0)), .unk, .v (.one (.ptr 1 0 0)), .unk, .v (.one (.d (.sc (.int .i64 i)))), .unk, .unk, .unk, .unk, .unk, .unk, .unk, .unk, .unk, .unk, .unk, .unk, .unk, .unk, .unk, .unk, .unk, .unk, .unk, .unk, .unk, .unk, .unk, .unk, .unk, .unk, .unk, .unk, .unk, .unk, .unk, .unk, .unk, .unk, .unk, .unk, .unk, .unk, .unk, .unk, .unk, .unk, .unk, .unk, .unk, .unk, .unk, .unk, .unk, .unk, .unk, .unk, .unk, .unk, .unk] [.box 71 p_s_, .box 26 p_c]).bind f_ = ((allD p_s_).bind dShard).bind fun s_ => ((allD p_c).bind dConfig).bind fun c => f_ (L_k56_0.mk k i s_ c) :=
  (mkAnn_un (σ := L_k56_0) _ _ _ _ _ _ _ _ _ f_).trans (by simp (maxSteps := 10000000) [Option.bind_assoc])
def T_k56 : List (Nat × LoopA) := [(0, .ty an_k56_0)]
set_option maxHeartbeats 20000000 in
set_option maxRecDepth 100000 in
noncomputable def pk_k56 : { F : Shard → Int → Config → Option (Bool) // CallC Go.Proofs.Tryz.prog 20 (con3 (eT ceShard) eInt (eT ceConfig) (fun x0 x1 x2 => (F x0 x1 x2).map (res1 rB).enc)) } :=
  ⟨_, cc3 E_k56 Go.Proofs.Tryz.func20 rfl rfl (T := T_k56) (G := []) (r := (res1 rB)) fun x0 x1 x2 => by
    unfold Wf
    simp (maxSteps := 10000000) (implicitDefEqProofs := false) [-env0, -envI, env0_tree, envI_tree, -evOps, -evOne, -evOp, -evIndexAddr, -evIndex, -evPick, -binV, -evLoad, -evStore, -loadC, -callV, -nilC, -storeC, -toDVs, -toDAs, -resRs, List.lookup, List.replicate, List.range_succ, ty_k56, C_k56_ty, C_k56_eqs, C_k56_call, C_k56_calls, C_k56_scal, C_k56_owns, C_k56_vars, C_k56_ores, C_k56_flags, C_k56_pins, C_k56_inls, T_k56, Go.Proofs.Tryz.f20, M_k4c, M_k59, M_k3e, an_k56_0_st, an_k56_0_un, iC, uC, bC, sC, Acc.c, Config.c, Shard.c, Tx.c]
    try rfl⟩
noncomputable def F_k56 : Shard → Int → Config → Option (Bool) := pk_k56.1
noncomputable def M_k56 : List DA → Option (List RV) := con3 (eT ceShard) eInt (eT ceConfig) (fun x0 x1 x2 => (F_k56 x0 x1 x2).map (res1 rB).enc)
theorem cc_k56 : CallC Go.Proofs.Tryz.prog 20 M_k56 := pk_k56.2
theorem en_k55 : Enters Go.Proofs.Tryz.prog 31 := ⟨_, Go.Proofs.Tryz.func31, rfl, rfl⟩
def ty_k55 : List (Nat × TI) := [(69, { size := 1, bytes := 24, agg := false, zero := [.sl []], kind := .slice 38 }), (3, { size := 1, bytes := 8, agg := false, zero := [.sc (.int .i64 0)], kind := .int .i64 }), (38, { size := 3, bytes := 40, agg := true, zero := [.sc (.int .i64 0), .sc (.int .i64 0), .sl []], kind := .struct [(0, 1, false), (1, 1, false), (2, 1, false)] })]
noncomputable def C_k55 : Cfg := mkC ty_k55 [] [(52, M_k51)] [52] [] [0,1,5] [] [(6, [true, true, true, true, true, true, true, true, false, true])]
theorem E_k55 : Env1 Go.Proofs.Tryz.prog C_k55 := mkC_ok (by kernel_rfl) (⟨⟨en_k51, cc_k51⟩, trivial⟩) (by kernel_rfl)
theorem C_k55_ty : (C_k55).ty = ty_k55 := rfl
theorem C_k55_eqs : (C_k55).eqs = [] := rfl
theorem C_k55_call : (C_k55).call = fun f => (([(52, M_k51)] : List (Nat × (List DA → Option (List RV)))).lookup f).getD fun _ => none := rfl
theorem C_k55_calls : (C_k55).calls = [52] := rfl
theorem C_k55_scal : (C_k55).scal = [52] := rfl
theorem C_k55_owns : (C_k55).owns = [] := rfl
theorem C_k55_vars : (C_k55).vars = [0,1,5] := rfl
theorem C_k55_ores : (C_k55).ores = [] := rfl
theorem C_k55_flags : (C_k55).flags = [(6, [true, true, true, true, true, true, true, true, false, true])] := rfl
theorem C_k55_pins : (C_k55).pins = [] := rfl
theorem C_k55_inls : (C_k55).inls = [] := rfl
structure L_k55_0 where
  a_ : List Acc
  b_ : List Acc
  i : Int
def an_k55_0 : Ann := mkAnn (σ := L_k55_0) (lCons (vOne (cSl ceAcc)) <| lCons (vOne (cSl ceAcc)) <| lSkip vUnk <| lSkip vUnk <| lSkip vUnk <| lCons (vOne cI) <| lSkip vUnk <| lSkip vUnk <| lSkip vUnk <| lSkip vUnk <| lSkip vUnk <| lSkip vUnk <| lSkip vUnk <| lSkip vUnk <| lSkip vUnk <| lSkip vUnk <| lSkip vUnk <| lSkip vUnk <| lSkip vUnk <| lSkip vUnk <| lSkip vUnk <| lSkip vUnk <| lSkip vUnk <| lSkip vUnk <| lSkip vUnk <| lSkip vUnk <| lSkip vUnk <|  lNil) ( lNil)
  (fun a b => L_k55_0.mk (a.1) (a.2.1) (a.2.2.1)) (fun s => (s.a_, s.b_, s.i, ())) (fun s => (())) (fun a b => true) (fun _ _ _ => ⟨rfl, rfl⟩)
set_option maxRecDepth 100000 in
theorem an_k55_0_st (s : an_k55_0.σ) : an_k55_0.st s = (toL 27 (.node (.node (.node (.node (.node (.node (.node (.node (.leaf (.v (.one (.d (.sl ((L_k55_0.a_ s).map Acc.c)))))) (.leaf (.v (.one (.d (.sl ((L_k55_0.b_ s).map Acc.c))))))) (.leaf (.unk))) (.node (.node (.leaf (.unk)) (.leaf (.v (.one (.d (.sc (.int .i64 (L_k55_0.i s)))))))) (.leaf (.unk)))) (.leaf (.unk))) (.leaf (.unk))) (.leaf (.unk))) (.leaf (.unk))) (.leaf (.unk))), []) := rfl
set_option maxHeartbeats 4000000 in
set_option maxRecDepth 100000 in
theorem an_k55_0_un {β : Type} (p_a_ : List (List DV)) (p_b_ : List (List DV)) (i : Int) (f_ : an_k55_0.σ → Option β) : (an_k55_0.un [.v (.one (.d (.sl p_a_))), .v (.one (.d (.sl p_b_))), .unk, .unk, .unk, .v (.one (.d (.sc (.int .i64 i)))), .unk, .unk, .unk, .unk, .unk, .unk, .unk, .unk, .unk, .unk, .unk, .unk, .unk, .unk, .unk, .unk, .unk, .unk, .unk, .unk, .unk] []).bind f_ = (decL dAcc p_a_).bind fun a_ => (decL dAcc p_b_).bind fun b_ => f_ (L_k55_0.mk a_ b_ i) :=
  (mkAnn_un (σ := L_k55_0) _ _ _ _ _ _ _ _ _ f_).trans (by simp (maxSteps := 10000000) [Option.bind_assoc])
def T_k55 : List (Nat × LoopA) := [(0, .ty an_k55_0)]
set_option maxHeartbeats 20000000 in
set_option maxRecDepth 100000 in
noncomputable def pk_k55 : { F : (List Acc) → (List Acc) → Option (Bool) // CallC Go.Proofs.Tryz.prog 31 (con2 (eL ceAcc) (eL ceAcc) (fun x0 x1 => (F x0 x1).map (res1 rB).enc)) } :=
  ⟨_, cc2 E_k55 Go.Proofs.Tryz.func31 rfl rfl (T := T_k55) (G := []) (r := (res1 rB)) fun x0 x1 => by
    unfold Wf
    simp (maxSteps := 10000000) (implicitDefEqProofs := false) [-env0, -envI, env0_tree, envI_tree, -evOps, -evOne, -evOp, -evIndexAddr, -evIndex, -evPick, -binV, -evLoad, -evStore, -loadC, -callV, -nilC, -storeC, -toDVs, -toDAs, -resRs, List.lookup, List.replicate, List.range_succ, ty_k55, C_k55_ty, C_k55_eqs, C_k55_call, C_k55_calls, C_k55_scal, C_k55_owns, C_k55_vars, C_k55_ores, C_k55_flags, C_k55_pins, C_k55_inls, T_k55, Go.Proofs.Tryz.f31, M_k51, an_k55_0_st, an_k55_0_un, iC, uC, bC, sC, Acc.c, Tx.c]
    try rfl⟩
noncomputable def F_k55 : (List Acc) → (List Acc) → Option (Bool) := pk_k55.1
noncomputable def M_k55 : List DA → Option (List RV) := con2 (eL ceAcc) (eL ceAcc) (fun x0 x1 => (F_k55 x0 x1).map (res1 rB).enc)
theorem cc_k55 : CallC Go.Proofs.Tryz.prog 31 M_k55 := pk_k55.2
theorem en_k58 : Enters Go.Proofs.Tryz.prog 16 := ⟨_, Go.Proofs.Tryz.func16, rfl, rfl⟩
def ty_k58 : List (Nat × TI) := [(71, { size := 2, bytes := 32, agg := true, zero := [.sl [], .sc (.int .i64 0)], kind := .struct [(0, 1, false), (1, 1, false)] }), (3, { size := 1, bytes := 8, agg := false, zero := [.sc (.int .i64 0)], kind := .int .i64 }), (69, { size := 1, bytes := 24, agg := false, zero := [.sl []], kind := .slice 38 }), (38, { size := 3, bytes := 40, agg := true, zero := [.sc (.int .i64 0), .sc (.int .i64 0), .sl []], kind := .struct [(0, 1, false), (1, 1, false), (2, 1, false)] })]
noncomputable def C_k58 : Cfg := mkC ty_k58 [] [(31, M_k55)] [31] [] [] [] []
theorem E_k58 : Env1 Go.Proofs.Tryz.prog C_k58 := mkC_ok (by kernel_rfl) (⟨⟨en_k55, cc_k55⟩, trivial⟩) (by kernel_rfl)
theorem C_k58_ty : (C_k58).ty = ty_k58 := rfl
theorem C_k58_eqs : (C_k58).eqs = [] := rfl
theorem C_k58_call : (C_k58).call = fun f => (([(31, M_k55)] : List (Nat × (List DA → Option (List RV)))).lookup f).getD fun _ => none := rfl
theorem C_k58_calls : (C_k58).calls = [31] := rfl
theorem C_k58_scal : (C_k58).scal = [31] := rfl
theorem C_k58_owns : (C_k58).owns = [] := rfl
theorem C_k58_vars : (C_k58).vars = [] := rfl
theorem C_k58_ores : (C_k58).ores = [] := rfl
theorem C_k58_flags : (C_k58).flags = [] := rfl
theorem C_k58_pins : (C_k58).pins = [] := rfl
theorem C_k58_inls : (C_k58).inls = [] := rfl
def T_k58 : List (Nat × LoopA) := []
set_option maxHeartbeats 20000000 in
set_option maxRecDepth 100000 in
noncomputable def pk_k58 : { F : Shard → Shard → Option (Bool) // CallC Go.Proofs.Tryz.prog 16 (con2 (eT ceShard) (eT ceShard) (fun x0 x1 => (F x0 x1).map (res1 rB).enc)) } :=
  ⟨_, cc2 E_k58 Go.Proofs.Tryz.func16 rfl rfl (T := T_k58) (G := []) (r := (res1 rB)) fun x0 x1 => by
    unfold Wf
    simp (maxSteps := 10000000) (implicitDefEqProofs := false) [-env0, -envI, env0_tree, envI_tree, -evOps, -evOne, -evOp, -evIndexAddr, -evIndex, -evPick, -binV, -evLoad, -evStore, -loadC, -callV, -nilC, -storeC, -toDVs, -toDAs, -resRs, List.lookup, List.replicate, List.range_succ, ty_k58, C_k58_ty, C_k58_eqs, C_k58_call, C_k58_calls, C_k58_scal, C_k58_owns, C_k58_vars, C_k58_ores, C_k58_flags, C_k58_pins, C_k58_inls, T_k58, Go.Proofs.Tryz.f16, M_k55, iC, uC, bC, sC, Acc.c, Shard.c, Tx.c]
    try rfl⟩
noncomputable def F_k58 : Shard → Shard → Option (Bool) := pk_k58.1
noncomputable def M_k58 : List DA → Option (List RV) := con2 (eT ceShard) (eT ceShard) (fun x0 x1 => (F_k58 x0 x1).map (res1 rB).enc)
theorem cc_k58 : CallC Go.Proofs.Tryz.prog 16 M_k58 := pk_k58.2
theorem en_k57 : Enters Go.Proofs.Tryz.prog 18 := ⟨_, Go.Proofs.Tryz.func18, rfl, rfl⟩
def ty_k57 : List (Nat × TI) := [(69, { size := 1, bytes := 24, agg := false, zero := [.sl []], kind := .slice 38 }), (3, { size := 1, bytes := 8, agg := false, zero := [.sc (.int .i64 0)], kind := .int .i64 }), (38, { size := 3, bytes := 40, agg := true, zero := [.sc (.int .i64 0), .sc (.int .i64 0), .sl []], kind := .struct [(0, 1, false), (1, 1, false), (2, 1, false)] }), (36, { size := 1, bytes := 24, agg := false, zero := [.sl []], kind := .slice 42 }), (42, { size := 6, bytes := 56, agg := true, zero := [.sc (.int .i64 0), .sc (.int .i64 0), .sc (.int .i64 0), .sc (.int .i64 0), .sc (.int .i64 0), .sc (.string "".toByteArray)], kind := .struct [(0, 1, false), (1, 1, false), (2, 1, false), (3, 1, false), (4, 1, false), (5, 1, false)] })]
noncomputable def C_k57 : Cfg := mkC ty_k57 [] [(33, M_k47)] [33] [] [0,1,5] [] []
theorem E_k57 : Env1 Go.Proofs.Tryz.prog C_k57 := mkC_ok (by kernel_rfl) (⟨⟨en_k47, cc_k47⟩, trivial⟩) (by kernel_rfl)
theorem C_k57_ty : (C_k57).ty = ty_k57 := rfl
theorem C_k57_eqs : (C_k57).eqs = [] := rfl
theorem C_k57_call : (C_k57).call = fun f => (([(33, M_k47)] : List (Nat × (List DA → Option (List RV)))).lookup f).getD fun _ => none := rfl
theorem C_k57_calls : (C_k57).calls = [33] := rfl
theorem C_k57_scal : (C_k57).scal = [33] := rfl
theorem C_k57_owns : (C_k57).owns = [] := rfl
theorem C_k57_vars : (C_k57).vars = [0,1,5] := rfl
theorem C_k57_ores : (C_k57).ores = [] := rfl
theorem C_k57_flags : (C_k57).flags = [] := rfl
theorem C_k57_pins : (C_k57).pins = [] := rfl
theorem C_k57_inls : (C_k57).inls = [] := rfl
structure L_k57_0 where
  l : List Acc
  most : Int
  i : Int
def an_k57_0 : Ann := mkAnn (σ := L_k57_0) (lCons (vOne (cSl ceAcc)) <| lCons (vOne cI) <| lSkip vUnk <| lSkip vUnk <| lSkip vUnk <| lCons (vOne cI) <| lSkip vUnk <| lSkip vUnk <| lSkip vUnk <| lSkip vUnk <| lSkip vUnk <| lSkip vUnk <| lSkip vUnk <| lSkip vUnk <| lSkip vUnk <| lSkip vUnk <| lSkip vUnk <| lSkip vUnk <| lSkip vUnk <| lSkip vUnk <| lSkip vUnk <| lSkip vUnk <| lSkip vUnk <|  lNil) ( lNil)
  (fun a b => L_k57_0.mk (a.1) (a.2.1) (a.2.2.1)) (fun s => (s.l, s.most, s.i, ())) (fun s => (())) (fun a b => true) (fun _ _ _ => ⟨rfl, rfl⟩)
set_option maxRecDepth 100000 in
theorem an_k57_0_st (s : an_k57_0.σ) : an_k57_0.st s = (toL 23 (.node (.node (.node (.node (.node (.node (.node (.node (.leaf (.v (.one (.d (.sl ((L_k57_0.l s).map Acc.c)))))) (.leaf (.v (.one (.d (.sc (.int .i64 (L_k57_0.most s)))))))) (.leaf (.unk))) (.node (.node (.leaf (.unk)) (.leaf (.v (.one (.d (.sc (.int .i64 (L_k57_0.i s)))))))) (.leaf (.unk)))) (.leaf (.unk))) (.leaf (.unk))) (.leaf (.unk))) (.leaf (.unk))) (.leaf (.unk))), []) := rfl
set_option maxHeartbeats 4000000 in
set_option maxRecDepth 100000 in
theorem an_k57_0_un {β : Type} (p_l : List (List DV)) (most : Int) (i : Int) (f_ : an_k57_0.σ → Option β) : (an_k57_0.un [.v (.one (.d (.sl p_l))), .v (.one (.d (.sc (.int .i64 most)))), .unk, .unk, .unk, .v (.one (.d (.sc (.int .i64 i)))), .unk, .unk, .unk, .unk, .unk, .unk, .unk, .unk, .unk, .unk, .unk, .unk, .unk, .unk, .unk, .unk, .unk] []).bind f_ = (decL dAcc p_l).bind fun l => f_ (L_k57_0.mk l most i) :=
  (mkAnn_un (σ := L_k57_0) _ _ _ _ _ _ _ _ _ f_).trans (by simp (maxSteps := 10000000) [Option.bind_assoc])
def T_k57 : List (Nat × LoopA) := [(0, .ty an_k57_0)]
set_option maxHeartbeats 20000000 in
set_option maxRecDepth 100000 in
noncomputable def pk_k57 : { F : (List Acc) → Int → Option (Bool) // CallC Go.Proofs.Tryz.prog 18 (con2 (eL ceAcc) eInt (fun x0 x1 => (F x0 x1).map (res1 rB).enc)) } :=
  ⟨_, cc2 E_k57 Go.Proofs.Tryz.func18 rfl rfl (T := T_k57) (G := []) (r := (res1 rB)) fun x0 x1 => by
    unfold Wf
    simp (maxSteps := 10000000) (implicitDefEqProofs := false) [-env0, -envI, env0_tree, envI_tree, -evOps, -evOne, -evOp, -evIndexAddr, -evIndex, -evPick, -binV, -evLoad, -evStore, -loadC, -callV, -nilC, -storeC, -toDVs, -toDAs, -resRs, List.lookup, List.replicate, List.range_succ, ty_k57, C_k57_ty, C_k57_eqs, C_k57_call, C_k57_calls, C_k57_scal, C_k57_owns, C_k57_vars, C_k57_ores, C_k57_flags, C_k57_pins, C_k57_inls, T_k57, Go.Proofs.Tryz.f18, M_k47, an_k57_0_st, an_k57_0_un, iC, uC, bC, sC, Acc.c, Tx.c]
    try rfl⟩
noncomputable def F_k57 : (List Acc) → Int → Option (Bool) := pk_k57.1
noncomputable def M_k57 : List DA → Option (List RV) := con2 (eL ceAcc) eInt (fun x0 x1 => (F_k57 x0 x1).map (res1 rB).enc)
theorem cc_k57 : CallC Go.Proofs.Tryz.prog 18 M_k57 := pk_k57.2
theorem en_k69 : Enters Go.Proofs.Tryz.prog 5 := ⟨_, Go.Proofs.Tryz.func5, rfl, rfl⟩
def ty_k69 : List (Nat × TI) := [(32, { size := 12, bytes := 128, agg := true, zero := [.sc (.int .i64 0), .sc (.int .i64 0), .sc (.int .i64 0), .sc (.int .i64 0), .sc (.int .i64 0), .sc (.int .i64 0), .sc (.int .i64 0), .sc (.int .i64 0), .sl [], .sc (.int .i64 0), .sc (.int .i64 0), .sl []], kind := .struct [(0, 8, true), (8, 1, false), (9, 2, true), (11, 1, false)] }), (30, { size := 1, bytes := 24, agg := false, zero := [.sl []], kind := .slice 71 }), (3, { size := 1, bytes := 8, agg := false, zero := [.sc (.int .i64 0)], kind := .int .i64 }), (71, { size := 2, bytes := 32, agg := true, zero := [.sl [], .sc (.int .i64 0)], kind := .struct [(0, 1, false), (1, 1, false)] }), (69, { size := 1, bytes := 24, agg := false, zero := [.sl []], kind := .slice 38 }), (27, { size := 1, bytes := 24, agg := false, zero := [.sl []], kind := .slice 3 }), (38, { size := 3, bytes := 40, agg := true, zero := [.sc (.int .i64 0), .sc (.int .i64 0), .sl []], kind := .struct [(0, 1, false), (1, 1, false), (2, 1, false)] })]
noncomputable def C_k69 : Cfg := mkC ty_k69 [] [(18, M_k57)] [18] [] [1,3] [] []
theorem E_k69 : Env1 Go.Proofs.Tryz.prog C_k69 := mkC_ok (by kernel_rfl) (⟨⟨en_k57, cc_k57⟩, trivial⟩) (by kernel_rfl)
theorem C_k69_ty : (C_k69).ty = ty_k69 := rfl
theorem C_k69_eqs : (C_k69).eqs = [] := rfl
theorem C_k69_call : (C_k69).call = fun f => (([(18, M_k57)] : List (Nat × (List DA → Option (List RV)))).lookup f).getD fun _ => none := rfl
theorem C_k69_calls : (C_k69).calls = [18] := rfl
theorem C_k69_scal : (C_k69).scal = [18] := rfl
theorem C_k69_owns : (C_k69).owns = [] := rfl
theorem C_k69_vars : (C_k69).vars = [1,3] := rfl
theorem C_k69_ores : (C_k69).ores = [] := rfl
theorem C_k69_flags : (C_k69).flags = [] := rfl
theorem C_k69_pins : (C_k69).pins = [] := rfl
theorem C_k69_inls : (C_k69).inls = [] := rfl
structure L_k69_0 where
  i : Int
  s_ : Sight
def an_k69_0 : Ann := mkAnn (σ := L_k69_0) (lSkip vUnk <| lSkip (vOne (cPtr 0 0 0)) <| lSkip vUnk <| lCons (vOne cI) <| lSkip vUnk <| lSkip vUnk <| lSkip vUnk <| lSkip vUnk <| lSkip vUnk <| lSkip vUnk <| lSkip vUnk <| lSkip vUnk <| lSkip vUnk <| lSkip vUnk <| lSkip vUnk <| lSkip vUnk <| lSkip vUnk <| lSkip vUnk <| lSkip vUnk <| lSkip vUnk <| lSkip vUnk <| lSkip vUnk <| lSkip vUnk <| lSkip vUnk <| lSkip vUnk <| lSkip vUnk <| lSkip vUnk <| lSkip vUnk <| lSkip vUnk <|  lNil) (lCons (oBox 32 (cStr ceSight)) <|  lNil)
  (fun a b => L_k69_0.mk (a.1) (b.1)) (fun s => (s.i, ())) (fun s => (s.s_, ())) (fun a b => true) (fun _ _ _ => ⟨rfl, rfl⟩)
set_option maxRecDepth 100000 in
theorem an_k69_0_st (s : an_k69_0.σ) : an_k69_0.st s = (toL 29 (.node (.node (.node (.node (.node (.node (.node (.node (.leaf (.unk)) (.leaf (.v (.one (.ptr 0 0 0))))) (.node (.leaf (.unk)) (.leaf (.v (.one (.d (.sc (.int .i64 (L_k69_0.i s))))))))) (.leaf (.unk))) (.leaf (.unk))) (.leaf (.unk))) (.leaf (.unk))) (.leaf (.unk))) (.leaf (.unk))), [.box 32 (ddv (Sight.c (L_k69_0.s_ s)))]) := rfl
set_option maxHeartbeats 4000000 in
set_option maxRecDepth 100000 in
theorem an_k69_0_un {β : Type} (i : Int) (p_s_ : List CV) (f_ : an_k69_0.σ → Option β) : (an_k69_0.un [.unk, .v (.one (.ptr 0 0 0)), .unk, .v (.one (.d (.sc (.int .i64 i)))), .unk, .unk, .unk, .unk, .unk, .unk, .unk, .unk, .unk, .unk, .unk, .unk, .unk, .unk, .unk, .unk, .unk, .unk, .unk, .unk, .unk, .unk, .unk, .unk, .unk] [.box 32 p_s_]).bind f_ = ((allD p_s_).bind dSight).bind fun s_ => f_ (L_k69_0.mk i s_) :=
  (mkAnn_un (σ := L_k69_0) _ _ _ _ _ _ _ _ _ f_).trans (by simp (maxSteps := 10000000) [Option.bind_assoc])
def T_k69 : List (Nat × LoopA) := [(0, .ty an_k69_0)]
set_option maxHeartbeats 20000000 in
set_option maxRecDepth 100000 in
noncomputable def pk_k69 : { F : Sight → Option (Bool) // CallC Go.Proofs.Tryz.prog 5 (con1 (eT ceSight) (fun x0 => (F x0).map (res1 rB).enc)) } :=
  ⟨_, cc1 E_k69 Go.Proofs.Tryz.func5 rfl rfl (T := T_k69) (G := []) (r := (res1 rB)) fun x0 => by
    unfold Wf
    simp (maxSteps := 10000000) (implicitDefEqProofs := false) [-env0, -envI, env0_tree, envI_tree, -evOps, -evOne, -evOp, -evIndexAddr, -evIndex, -evPick, -binV, -evLoad, -evStore, -loadC, -callV, -nilC, -storeC, -toDVs, -toDAs, -resRs, List.lookup, List.replicate, List.range_succ, ty_k69, C_k69_ty, C_k69_eqs, C_k69_call, C_k69_calls, C_k69_scal, C_k69_owns, C_k69_vars, C_k69_ores, C_k69_flags, C_k69_pins, C_k69_inls, T_k69, Go.Proofs.Tryz.f5, M_k57, an_k69_0_st, an_k69_0_un, iC, uC, bC, sC, Acc.c, Config.c, Pot.c, Shard.c, Sight.c, Tx.c]
    try rfl⟩
noncomputable def F_k69 : Sight → Option (Bool) := pk_k69.1
noncomputable def M_k69 : List DA → Option (List RV) := con1 (eT ceSight) (fun x0 => (F_k69 x0).map (res1 rB).enc)
theorem cc_k69 : CallC Go.Proofs.Tryz.prog 5 M_k69 := pk_k69.2

end Go.Vm

/- What Go functions come to, as Lean functions: each with its contract. -/
set_option linter.unusedVariables false
set_option linter.unusedSimpArgs false
namespace Go.Vm
open Go Go.RowKit

theorem en_k67 : Enters Go.Proofs.Tryz.prog 14 := ⟨_, Go.Proofs.Tryz.func14, rfl, rfl⟩
def ty_k67 : List (Nat × TI) := [(66, { size := 32, bytes := 344, agg := true, zero := [.sc (.int .i64 0), .sc (.int .i64 0), .sc (.int .i64 0), .sc (.int .i64 0), .sc (.string "".toByteArray), .sc (.int .i64 0), .sc (.int .i64 0), .sc (.bool false), .sc (.int .i64 0), .sc (.int .i64 0), .sc (.int .i64 0), .sl [], .sl [], .sc (.int .i64 0), .sc (.int .i64 0), .sc (.int .i64 0), .sc (.int .i64 0), .sc (.int .i64 0), .sc (.int .i64 0), .sc (.string "".toByteArray), .sl [], .sc (.int .i64 0), .sc (.int .i64 0), .sc (.int .i64 0), .sc (.int .i64 0), .sc (.int .i64 0), .sc (.int .i64 0), .sc (.int .i64 0), .sc (.string "".toByteArray), .sl [], .sc (.int .i64 0), .sc (.bool false)], kind := .struct [(0, 5, true), (5, 1, false), (6, 1, false), (7, 15, true), (22, 9, true), (31, 1, false)] }), (23, { size := 5, bytes := 48, agg := true, zero := [.sc (.int .i64 0), .sc (.int .i64 0), .sc (.int .i64 0), .sc (.int .i64 0), .sc (.string "".toByteArray)], kind := .struct [(0, 1, false), (1, 1, false), (2, 1, false), (3, 1, false), (4, 1, false)] }), (3, { size := 1, bytes := 8, agg := false, zero := [.sc (.int .i64 0)], kind := .int .i64 }), (4, { size := 1, bytes := 1, agg := false, zero := [.sc (.bool false)], kind := .bool }), (64, { size := 15, bytes := 176, agg := true, zero := [.sc (.bool false), .sc (.int .i64 0), .sc (.int .i64 0), .sc (.int .i64 0), .sl [], .sl [], .sc (.int .i64 0), .sc (.int .i64 0), .sc (.int .i64 0), .sc (.int .i64 0), .sc (.int .i64 0), .sc (.int .i64 0), .sc (.string "".toByteArray), .sl [], .sc (.int .i64 0)], kind := .struct [(0, 1, false), (1, 1, false), (2, 3, true), (5, 1, false), (6, 9, true)] }), (62, { size := 9, bytes := 96, agg := true, zero := [.sc (.int .i64 0), .sc (.int .i64 0), .sc (.int .i64 0), .sc (.int .i64 0), .sc (.int .i64 0), .sc (.int .i64 0), .sc (.string "".toByteArray), .sl [], .sc (.int .i64 0)], kind := .struct [(0, 1, false), (1, 6, true), (7, 1, false), (8, 1, false)] })]
noncomputable def C_k67 : Cfg := mkC ty_k67 [(23, [.i .i64, .i .i64, .i .i64, .i .i64, .s])] [(29, M_k60), (17, M_k5c)] [29, 17] [] [] [] []
theorem E_k67 : Env1 Go.Proofs.Tryz.prog C_k67 := mkC_ok (by kernel_rfl) (⟨⟨en_k60, cc_k60⟩, ⟨⟨en_k5c, cc_k5c⟩, trivial⟩⟩) (by kernel_rfl)
theorem C_k67_ty : (C_k67).ty = ty_k67 := rfl
theorem C_k67_eqs : (C_k67).eqs = [(23, [.i .i64, .i .i64, .i .i64, .i .i64, .s])] := rfl
theorem C_k67_call : (C_k67).call = fun f => (([(29, M_k60), (17, M_k5c)] : List (Nat × (List DA → Option (List RV)))).lookup f).getD fun _ => none := rfl
theorem C_k67_calls : (C_k67).calls = [29, 17] := rfl
theorem C_k67_scal : (C_k67).scal = [29, 17] := rfl
theorem C_k67_owns : (C_k67).owns = [] := rfl
theorem C_k67_vars : (C_k67).vars = [] := rfl
theorem C_k67_ores : (C_k67).ores = [] := rfl
theorem C_k67_flags : (C_k67).flags = [] := rfl
theorem C_k67_pins : (C_k67).pins = [] := rfl
theorem C_k67_inls : (C_k67).inls = [] := rfl
def T_k67 : List (Nat × LoopA) := []
set_option maxHeartbeats 20000000 in
set_option maxRecDepth 100000 in
noncomputable def pk_k67 : { F : Task → Task → Option (Bool) // CallC Go.Proofs.Tryz.prog 14 (con2 (eT ceTask) (eT ceTask) (fun x0 x1 => (F x0 x1).map (res1 rB).enc)) } :=
  ⟨_, cc2 E_k67 Go.Proofs.Tryz.func14 rfl rfl (T := T_k67) (G := []) (r := (res1 rB)) fun x0 x1 => by
    unfold Wf
    simp (maxSteps := 10000000) (implicitDefEqProofs := false) [-env0, -envI, env0_tree, envI_tree, -evOps, -evOne, -evOp, -evIndexAddr, -evIndex, -evPick, -binV, -evLoad, -evStore, -loadC, -callV, -nilC, -storeC, -toDVs, -toDAs, -resRs, List.lookup, List.replicate, List.range_succ, ty_k67, C_k67_ty, C_k67_eqs, C_k67_call, C_k67_calls, C_k67_scal, C_k67_owns, C_k67_vars, C_k67_ores, C_k67_flags, C_k67_pins, C_k67_inls, T_k67, Go.Proofs.Tryz.f14, M_k60, M_k5c, iC, uC, bC, sC, Acc.c, Event.c, Op.c, Plan.c, Result.c, Task.c, Tx.c]
    try rfl⟩
noncomputable def F_k67 : Task → Task → Option (Bool) := pk_k67.1
noncomputable def M_k67 : List DA → Option (List RV) := con2 (eT ceTask) (eT ceTask) (fun x0 x1 => (F_k67 x0 x1).map (res1 rB).enc)
theorem cc_k67 : CallC Go.Proofs.Tryz.prog 14 M_k67 := pk_k67.2
theorem en_k68 : Enters Go.Proofs.Tryz.prog 13 := ⟨_, Go.Proofs.Tryz.func13, rfl, rfl⟩
def ty_k68 : List (Nat × TI) := [(32, { size := 12, bytes := 128, agg := true, zero := [.sc (.int .i64 0), .sc (.int .i64 0), .sc (.int .i64 0), .sc (.int .i64 0), .sc (.int .i64 0), .sc (.int .i64 0), .sc (.int .i64 0), .sc (.int .i64 0), .sl [], .sc (.int .i64 0), .sc (.int .i64 0), .sl []], kind := .struct [(0, 8, true), (8, 1, false), (9, 2, true), (11, 1, false)] }), (26, { size := 8, bytes := 64, agg := true, zero := [.sc (.int .i64 0), .sc (.int .i64 0), .sc (.int .i64 0), .sc (.int .i64 0), .sc (.int .i64 0), .sc (.int .i64 0), .sc (.int .i64 0), .sc (.int .i64 0)], kind := .struct [(0, 1, false), (1, 1, false), (2, 1, false), (3, 1, false), (4, 1, false), (5, 1, false), (6, 1, false), (7, 1, false)] }), (29, { size := 2, bytes := 16, agg := true, zero := [.sc (.int .i64 0), .sc (.int .i64 0)], kind := .struct [(0, 1, false), (1, 1, false)] }), (27, { size := 1, bytes := 24, agg := false, zero := [.sl []], kind := .slice 3 }), (30, { size := 1, bytes := 24, agg := false, zero := [.sl []], kind := .slice 71 }), (3, { size := 1, bytes := 8, agg := false, zero := [.sc (.int .i64 0)], kind := .int .i64 }), (71, { size := 2, bytes := 32, agg := true, zero := [.sl [], .sc (.int .i64 0)], kind := .struct [(0, 1, false), (1, 1, false)] })]
noncomputable def C_k68 : Cfg := mkC ty_k68 [(26, [.i .i64, .i .i64, .i .i64, .i .i64, .i .i64, .i .i64, .i .i64, .i .i64]), (29, [.i .i64, .i .i64])] [(28, M_k54), (16, M_k58)] [28, 16] [] [2,3,5] [] [(6, [true, true, true, true, true, true, true, true, true, true, false, true])]
theorem E_k68 : Env1 Go.Proofs.Tryz.prog C_k68 := mkC_ok (by kernel_rfl) (⟨⟨en_k54, cc_k54⟩, ⟨⟨en_k58, cc_k58⟩, trivial⟩⟩) (by kernel_rfl)
theorem C_k68_ty : (C_k68).ty = ty_k68 := rfl
theorem C_k68_eqs : (C_k68).eqs = [(26, [.i .i64, .i .i64, .i .i64, .i .i64, .i .i64, .i .i64, .i .i64, .i .i64]), (29, [.i .i64, .i .i64])] := rfl
theorem C_k68_call : (C_k68).call = fun f => (([(28, M_k54), (16, M_k58)] : List (Nat × (List DA → Option (List RV)))).lookup f).getD fun _ => none := rfl
theorem C_k68_calls : (C_k68).calls = [28, 16] := rfl
theorem C_k68_scal : (C_k68).scal = [28, 16] := rfl
theorem C_k68_owns : (C_k68).owns = [] := rfl
theorem C_k68_vars : (C_k68).vars = [2,3,5] := rfl
theorem C_k68_ores : (C_k68).ores = [] := rfl
theorem C_k68_flags : (C_k68).flags = [(6, [true, true, true, true, true, true, true, true, true, true, false, true])] := rfl
theorem C_k68_pins : (C_k68).pins = [] := rfl
theorem C_k68_inls : (C_k68).inls = [] := rfl
structure L_k68_0 where
  i : Int
  a_ : Sight
  b_ : Sight
def an_k68_0 : Ann := mkAnn (σ := L_k68_0) (lSkip vUnk <| lSkip vUnk <| lSkip (vOne (cPtr 0 0 0)) <| lSkip (vOne (cPtr 1 0 0)) <| lSkip vUnk <| lCons (vOne cI) <| lSkip vUnk <| lSkip vUnk <| lSkip vUnk <| lSkip vUnk <| lSkip vUnk <| lSkip vUnk <| lSkip vUnk <| lSkip vUnk <| lSkip vUnk <| lSkip vUnk <| lSkip vUnk <| lSkip vUnk <| lSkip vUnk <| lSkip vUnk <| lSkip vUnk <| lSkip vUnk <| lSkip vUnk <| lSkip vUnk <| lSkip vUnk <| lSkip vUnk <| lSkip vUnk <| lSkip vUnk <| lSkip vUnk <| lSkip vUnk <| lSkip vUnk <| lSkip vUnk <| lSkip vUnk <| lSkip vUnk <| lSkip vUnk <| lSkip vUnk <| lSkip vUnk <| lSkip vUnk <| lSkip vUnk <| lSkip vUnk <| lSkip vUnk <| lSkip vUnk <| lSkip vUnk <| lSkip vUnk <| lSkip vUnk <| lSkip vUnk <| lSkip vUnk <| lSkip vUnk <| lSkip vUnk <| lSkip vUnk <| lSkip vUnk <| lSkip vUnk <| lSkip vUnk <| lSkip vUnk <|  lNil) (lCons (oBox 32 (cStr ceSight)) <| lCons (oBox 32 (cStr ceSight)) <|  lNil)
  (fun a b => L_k68_0.mk (a.1) (b.1) (b.2.1)) (fun s => (s.i, ())) (fun s => (s.a_, s.b_, ())) (fun a b => true) (fun _ _ _ => ⟨rfl, rfl⟩)
set_option maxRecDepth 100000 in
theorem an_k68_0_st (s : an_k68_0.σ) : an_k68_0.st s = (toL 54 (.node (.node (.node (.node (.node (.node (.node (.leaf (.unk)) (.node (.leaf (.v (.one (.ptr 0 0 0)))) (.leaf (.v (.one (.ptr 1 0 0)))))) (.node (.node (.leaf (.unk)) (.leaf (.v (.one (.d (.sc (.int .i64 (L_k68_0.i s)))))))) (.leaf (.unk)))) (.leaf (.unk))) (.leaf (.unk))) (.leaf (.unk))) (.leaf (.unk))) (.leaf (.unk))), [.box 32 (ddv (Sight.c (L_k68_0.a_ s))), .box 32 (ddv (Sight.c (L_k68_0.b_ s)))]) := rfl
set_option maxHeartbeats 4000000 in
set_option maxRecDepth 100000 in
theorem an_k68_0_un {β : Type} (i : Int) (p_a_ : List CV) (p_b_ : List CV) (f_ : an_k68_0.σ → Option β) : (an_k68_0.un [.unk, .unk, .v (.one (.ptr 0 0 0)), .v (.one (.ptr 1 0 0)), .unk, .v (.one (.d (.sc (.int .i64 i)))), .unk, .unk, .unk, .unk, .unk, .unk, .unk, .unk, .unk, .unk, .unk, .unk, .unk, .unk, .unk, .unk, .unk, .unk, .unk, .unk, .unk, .unk, .unk, .unk, .unk, .unk, .unk, .unk, .unk, .unk, .unk, .unk, .unk, .unk, .unk, .unk, .unk, .unk, .unk, .unk, .unk, .unk, .unk, .unk, .unk, .unk, .unk, .unk] [.box 32 p_a_, .box 32 p_b_]).bind f_ = ((allD p_a_).bind dSight).bind fun a_ => ((allD p_b_).bind dSight).bind fun b_ => f_ (L_k68_0.mk i a_ b_) :=
  (mkAnn_un (σ := L_k68_0) _ _ _ _ _ _ _ _ _ f_).trans (by simp (maxSteps := 10000000) [Option.bind_assoc])
def T_k68 : List (Nat × LoopA) := [(0, .ty an_k68_0)]
set_option maxHeartbeats 20000000 in
set_option maxRecDepth 100000 in
noncomputable def pk_k68 : { F : Sight → Sight → Option (Bool) // CallC Go.Proofs.Tryz.prog 13 (con2 (eT ceSight) (eT ceSight) (fun x0 x1 => (F x0 x1).map (res1 rB).enc)) } :=
  ⟨_, cc2 E_k68 Go.Proofs.Tryz.func13 rfl rfl (T := T_k68) (G := []) (r := (res1 rB)) fun x0 x1 => by
    unfold Wf
    simp (maxSteps := 10000000) (implicitDefEqProofs := false) [-env0, -envI, env0_tree, envI_tree, -evOps, -evOne, -evOp, -evIndexAddr, -evIndex, -evPick, -binV, -evLoad, -evStore, -loadC, -callV, -nilC, -storeC, -toDVs, -toDAs, -resRs, List.lookup, List.replicate, List.range_succ, ty_k68, C_k68_ty, C_k68_eqs, C_k68_call, C_k68_calls, C_k68_scal, C_k68_owns, C_k68_vars, C_k68_ores, C_k68_flags, C_k68_pins, C_k68_inls, T_k68, Go.Proofs.Tryz.f13, M_k54, M_k58, an_k68_0_st, an_k68_0_un, iC, uC, bC, sC, Acc.c, Config.c, Pot.c, Shard.c, Sight.c, Tx.c]
    try rfl⟩
noncomputable def F_k68 : Sight → Sight → Option (Bool) := pk_k68.1
noncomputable def M_k68 : List DA → Option (List RV) := con2 (eT ceSight) (eT ceSight) (fun x0 x1 => (F_k68 x0 x1).map (res1 rB).enc)
theorem cc_k68 : CallC Go.Proofs.Tryz.prog 13 M_k68 := pk_k68.2

end Go.Vm

/- What Go functions come to, as Lean functions: each with its contract. -/
set_option linter.unusedVariables false
set_option linter.unusedSimpArgs false
namespace Go.Vm
open Go Go.RowKit

theorem en_k0c : Enters Go.Proofs.Tryz.prog 24 := ⟨_, Go.Proofs.Tryz.func24, rfl, rfl⟩
def ty_k0c : List (Nat × TI) := [(52, { size := 1, bytes := 24, agg := false, zero := [.sl []], kind := .slice 82 }), (30, { size := 1, bytes := 24, agg := false, zero := [.sl []], kind := .slice 71 }), (3, { size := 1, bytes := 8, agg := false, zero := [.sc (.int .i64 0)], kind := .int .i64 }), (71, { size := 2, bytes := 32, agg := true, zero := [.sl [], .sc (.int .i64 0)], kind := .struct [(0, 1, false), (1, 1, false)] }), (82, { size := 2, bytes := 32, agg := true, zero := [.sl [], .sc (.int .i64 0)], kind := .struct [(0, 1, false), (1, 1, false)] })]
noncomputable def C_k0c : Cfg := mkC ty_k0c [] [] [] [(2, [(0, 82, 2)]), (3, [(0, 82, 2)])] [0,3,4] [] []
theorem E_k0c : Env1 Go.Proofs.Tryz.prog C_k0c := mkC_ok (by kernel_rfl) trivial (by kernel_rfl)
theorem C_k0c_ty : (C_k0c).ty = ty_k0c := rfl
theorem C_k0c_eqs : (C_k0c).eqs = [] := rfl
theorem C_k0c_call : (C_k0c).call = fun f => (([] : List (Nat × (List DA → Option (List RV)))).lookup f).getD fun _ => none := rfl
theorem C_k0c_calls : (C_k0c).calls = [] := rfl
theorem C_k0c_scal : (C_k0c).scal = [] := rfl
theorem C_k0c_owns : (C_k0c).owns = [(2, [(0, 82, 2)]), (3, [(0, 82, 2)])] := rfl
theorem C_k0c_vars : (C_k0c).vars = [0,3,4] := rfl
theorem C_k0c_ores : (C_k0c).ores = [] := rfl
theorem C_k0c_flags : (C_k0c).flags = [] := rfl
theorem C_k0c_pins : (C_k0c).pins = [] := rfl
theorem C_k0c_inls : (C_k0c).inls = [] := rfl
structure L_k0c_0 where
  l : List Shard
  i : Int
  o0 : List Shard
  out : List Shard
def an_k0c_0 : Ann := mkAnn (σ := L_k0c_0) (lCons (vOne (cSl ceShard)) <| lSkip vUnk <| lSkip vUnk <| lCons (vOne (cOwn 1)) <| lCons (vOne cI) <| lSkip vUnk <| lSkip vUnk <| lSkip vUnk <| lSkip vUnk <| lSkip vUnk <| lSkip vUnk <| lSkip vUnk <| lSkip vUnk <| lSkip vUnk <| lSkip vUnk <| lSkip vUnk <| lSkip vUnk <| lSkip vUnk <| lSkip vUnk <|  lNil) (lCons (oArr 82 2 ceShard) <| lCons (oArr 82 2 ceShard) <|  lNil)
  (fun a b => L_k0c_0.mk (a.1) (a.2.2.1) (b.1) (b.2.1)) (fun s => (s.l, s.out.length, s.i, ())) (fun s => (s.o0, s.out, ())) (fun a b => decide (a.2.1 = (b.2.1).length)) (by rintro ⟨a0, a1, a2, _⟩ ⟨b0, b1, _⟩ h; simp at h; simp [h])
set_option maxRecDepth 100000 in
theorem an_k0c_0_st (s : an_k0c_0.σ) : an_k0c_0.st s = (toL 19 (.node (.node (.node (.node (.node (.node (.node (.node (.leaf (.v (.one (.d (.sl ((L_k0c_0.l s).map Shard.c)))))) (.leaf (.unk))) (.node (.leaf (.unk)) (.leaf (.v (.one (.own 1 (L_k0c_0.out s).length)))))) (.node (.node (.leaf (.v (.one (.d (.sc (.int .i64 (L_k0c_0.i s))))))) (.leaf (.unk))) (.leaf (.unk)))) (.leaf (.unk))) (.leaf (.unk))) (.leaf (.unk))) (.leaf (.unk))) (.leaf (.unk))), [.arr 82 2 ((L_k0c_0.o0 s).map Shard.c), .arr 82 2 ((L_k0c_0.out s).map Shard.c)]) := rfl
set_option maxHeartbeats 4000000 in
set_option maxRecDepth 100000 in
theorem an_k0c_0_un {β : Type} (p_l : List (List DV)) (m1_out : Nat) (i : Int) (p_o0 : List (List DV)) (p_out : List (List DV)) (f_ : an_k0c_0.σ → Option β) : (an_k0c_0.un [.v (.one (.d (.sl p_l))), .unk, .unk, .v (.one (.own 1 m1_out)), .v (.one (.d (.sc (.int .i64 i)))), .unk, .unk, .unk, .unk, .unk, .unk, .unk, .unk, .unk, .unk, .unk, .unk, .unk, .unk] [.arr 82 2 p_o0, .arr 82 2 p_out]).bind f_ = (decL dShard p_l).bind fun l => (decL dShard p_o0).bind fun o0 => (decL dShard p_out).bind fun out => (if m1_out = out.length then f_ (L_k0c_0.mk l i o0 out) else none) :=
  (mkAnn_un (σ := L_k0c_0) _ _ _ _ _ _ _ _ _ f_).trans (by simp (maxSteps := 10000000) [Option.bind_assoc, bind_ite])
def T_k0c : List (Nat × LoopA) := [(0, .ty an_k0c_0)]
set_option maxHeartbeats 20000000 in
set_option maxRecDepth 100000 in
noncomputable def pk_k0c : { F : (List Shard) → Option ((List Shard)) // CallC Go.Proofs.Tryz.prog 24 (con1 (eL ceShard) (fun x0 => (F x0).map (res1 (rSl ceShard)).enc)) } :=
  ⟨_, cc1 E_k0c Go.Proofs.Tryz.func24 rfl rfl (T := T_k0c) (G := []) (r := (res1 (rSl ceShard))) fun x0 => by
    unfold Wf
    simp (maxSteps := 10000000) (implicitDefEqProofs := false) [-env0, -envI, env0_tree, envI_tree, -evOps, -evOne, -evOp, -evIndexAddr, -evIndex, -evPick, -binV, -evLoad, -evStore, -loadC, -callV, -nilC, -storeC, -toDVs, -toDAs, -resRs, List.lookup, List.replicate, List.range_succ, ty_k0c, C_k0c_ty, C_k0c_eqs, C_k0c_call, C_k0c_calls, C_k0c_scal, C_k0c_owns, C_k0c_vars, C_k0c_ores, C_k0c_flags, C_k0c_pins, C_k0c_inls, T_k0c, Go.Proofs.Tryz.f24, an_k0c_0_st, an_k0c_0_un, iC, uC, bC, sC, Acc.c, Shard.c, Tx.c]
    try rfl⟩
noncomputable def F_k0c : (List Shard) → Option ((List Shard)) := pk_k0c.1
noncomputable def M_k0c : List DA → Option (List RV) := con1 (eL ceShard) (fun x0 => (F_k0c x0).map (res1 (rSl ceShard)).enc)
theorem cc_k0c : CallC Go.Proofs.Tryz.prog 24 M_k0c := pk_k0c.2
theorem en_k13 : Enters Go.Proofs.Tryz.prog 9 := ⟨_, Go.Proofs.Tryz.func9, rfl, rfl⟩
def ty_k13 : List (Nat × TI) := [(32, { size := 12, bytes := 128, agg := true, zero := [.sc (.int .i64 0), .sc (.int .i64 0), .sc (.int .i64 0), .sc (.int .i64 0), .sc (.int .i64 0), .sc (.int .i64 0), .sc (.int .i64 0), .sc (.int .i64 0), .sl [], .sc (.int .i64 0), .sc (.int .i64 0), .sl []], kind := .struct [(0, 8, true), (8, 1, false), (9, 2, true), (11, 1, false)] }), (54, { size := 12, bytes := 128, agg := true, zero := [.sc (.int .i64 0), .sc (.int .i64 0), .sc (.int .i64 0), .sc (.int .i64 0), .sc (.int .i64 0), .sc (.int .i64 0), .sc (.int .i64 0), .sc (.int .i64 0), .sl [], .sc (.int .i64 0), .sc (.int .i64 0), .sl []], kind := .struct [(0, 8, true), (8, 1, false), (9, 2, true), (11, 1, false)] }), (26, { size := 8, bytes := 64, agg := true, zero := [.sc (.int .i64 0), .sc (.int .i64 0), .sc (.int .i64 0), .sc (.int .i64 0), .sc (.int .i64 0), .sc (.int .i64 0), .sc (.int .i64 0), .sc (.int .i64 0)], kind := .struct [(0, 1, false), (1, 1, false), (2, 1, false), (3, 1, false), (4, 1, false), (5, 1, false), (6, 1, false), (7, 1, false)] }), (27, { size := 1, bytes := 24, agg := false, zero := [.sl []], kind := .slice 3 }), (29, { size := 2, bytes := 16, agg := true, zero := [.sc (.int .i64 0), .sc (.int .i64 0)], kind := .struct [(0, 1, false), (1, 1, false)] }), (30, { size := 1, bytes := 24, agg := false, zero := [.sl []], kind := .slice 71 }), (3, { size := 1, bytes := 8, agg := false, zero := [.sc (.int .i64 0)], kind := .int .i64 }), (71, { size := 2, bytes := 32, agg := true, zero := [.sl [], .sc (.int .i64 0)], kind := .struct [(0, 1, false), (1, 1, false)] })]
noncomputable def C_k13 : Cfg := mkC ty_k13 [] [(24, M_k0c)] [] [] [] [] [(1, [true, true, true, true, true, true, true, true, true, true, false])]
theorem E_k13 : Env1 Go.Proofs.Tryz.prog C_k13 := mkC_ok (by kernel_rfl) (⟨⟨en_k0c, cc_k0c⟩, trivial⟩) (by kernel_rfl)
theorem C_k13_ty : (C_k13).ty = ty_k13 := rfl
theorem C_k13_eqs : (C_k13).eqs = [] := rfl
theorem C_k13_call : (C_k13).call = fun f => (([(24, M_k0c)] : List (Nat × (List DA → Option (List RV)))).lookup f).getD fun _ => none := rfl
theorem C_k13_calls : (C_k13).calls = [24] := rfl
theorem C_k13_scal : (C_k13).scal = [] := rfl
theorem C_k13_owns : (C_k13).owns = [] := rfl
theorem C_k13_vars : (C_k13).vars = [] := rfl
theorem C_k13_ores : (C_k13).ores = [] := rfl
theorem C_k13_flags : (C_k13).flags = [(1, [true, true, true, true, true, true, true, true, true, true, false])] := rfl
theorem C_k13_pins : (C_k13).pins = [] := rfl
theorem C_k13_inls : (C_k13).inls = [] := rfl
def T_k13 : List (Nat × LoopA) := []
set_option maxHeartbeats 20000000 in
set_option maxRecDepth 100000 in
noncomputable def pk_k13 : { F : Sight → Option (Sight) // CallC Go.Proofs.Tryz.prog 9 (con1 (eT ceSight) (fun x0 => (F x0).map (res1 (rAgg ceSight)).enc)) } :=
  ⟨_, cc1 E_k13 Go.Proofs.Tryz.func9 rfl rfl (T := T_k13) (G := []) (r := (res1 (rAgg ceSight))) fun x0 => by
    unfold Wf
    simp (maxSteps := 10000000) (implicitDefEqProofs := false) [-env0, -envI, env0_tree, envI_tree, -evOps, -evOne, -evOp, -evIndexAddr, -evIndex, -evPick, -binV, -evLoad, -evStore, -loadC, -callV, -nilC, -storeC, -toDVs, -toDAs, -resRs, List.lookup, List.replicate, List.range_succ, ty_k13, C_k13_ty, C_k13_eqs, C_k13_call, C_k13_calls, C_k13_scal, C_k13_owns, C_k13_vars, C_k13_ores, C_k13_flags, C_k13_pins, C_k13_inls, T_k13, Go.Proofs.Tryz.f9, M_k0c, iC, uC, bC, sC, Acc.c, Config.c, Pot.c, Shard.c, Sight.c, Tx.c]
    try rfl⟩
noncomputable def F_k13 : Sight → Option (Sight) := pk_k13.1
noncomputable def M_k13 : List DA → Option (List RV) := con1 (eT ceSight) (fun x0 => (F_k13 x0).map (res1 (rAgg ceSight)).enc)
theorem cc_k13 : CallC Go.Proofs.Tryz.prog 9 M_k13 := pk_k13.2
theorem en_k17 : Enters Go.Proofs.Tryz.prog 12 := ⟨_, Go.Proofs.Tryz.func12, rfl, rfl⟩
def ty_k17 : List (Nat × TI) := [(54, { size := 12, bytes := 128, agg := true, zero := [.sc (.int .i64 0), .sc (.int .i64 0), .sc (.int .i64 0), .sc (.int .i64 0), .sc (.int .i64 0), .sc (.int .i64 0), .sc (.int .i64 0), .sc (.int .i64 0), .sl [], .sc (.int .i64 0), .sc (.int .i64 0), .sl []], kind := .struct [(0, 8, true), (8, 1, false), (9, 2, true), (11, 1, false)] }), (32, { size := 12, bytes := 128, agg := true, zero := [.sc (.int .i64 0), .sc (.int .i64 0), .sc (.int .i64 0), .sc (.int .i64 0), .sc (.int .i64 0), .sc (.int .i64 0), .sc (.int .i64 0), .sc (.int .i64 0), .sl [], .sc (.int .i64 0), .sc (.int .i64 0), .sl []], kind := .struct [(0, 8, true), (8, 1, false), (9, 2, true), (11, 1, false)] }), (26, { size := 8, bytes := 64, agg := true, zero := [.sc (.int .i64 0), .sc (.int .i64 0), .sc (.int .i64 0), .sc (.int .i64 0), .sc (.int .i64 0), .sc (.int .i64 0), .sc (.int .i64 0), .sc (.int .i64 0)], kind := .struct [(0, 1, false), (1, 1, false), (2, 1, false), (3, 1, false), (4, 1, false), (5, 1, false), (6, 1, false), (7, 1, false)] }), (50, { size := 1, bytes := 24, agg := false, zero := [.sl []], kind := .slice 3 }), (51, { size := 2, bytes := 16, agg := true, zero := [.sc (.int .i64 0), .sc (.int .i64 0)], kind := .struct [(0, 1, false), (1, 1, false)] }), (52, { size := 1, bytes := 24, agg := false, zero := [.sl []], kind := .slice 82 }), (3, { size := 1, bytes := 8, agg := false, zero := [.sc (.int .i64 0)], kind := .int .i64 }), (30, { size := 1, bytes := 24, agg := false, zero := [.sl []], kind := .slice 71 }), (82, { size := 2, bytes := 32, agg := true, zero := [.sl [], .sc (.int .i64 0)], kind := .struct [(0, 1, false), (1, 1, false)] }), (71, { size := 2, bytes := 32, agg := true, zero := [.sl [], .sc (.int .i64 0)], kind := .struct [(0, 1, false), (1, 1, false)] })]
noncomputable def C_k17 : Cfg := mkC ty_k17 [] [] [] [(11, [(11, 71, 2)])] [1,2,3,4] [] [(5, [true, true, true, true, true, true, true, true, false, true, false])]
theorem E_k17 : Env1 Go.Proofs.Tryz.prog C_k17 := mkC_ok (by kernel_rfl) trivial (by kernel_rfl)
theorem C_k17_ty : (C_k17).ty = ty_k17 := rfl
theorem C_k17_eqs : (C_k17).eqs = [] := rfl
theorem C_k17_call : (C_k17).call = fun f => (([] : List (Nat × (List DA → Option (List RV)))).lookup f).getD fun _ => none := rfl
theorem C_k17_calls : (C_k17).calls = [] := rfl
theorem C_k17_scal : (C_k17).scal = [] := rfl
theorem C_k17_owns : (C_k17).owns = [(11, [(11, 71, 2)])] := rfl
theorem C_k17_vars : (C_k17).vars = [1,2,3,4] := rfl
theorem C_k17_ores : (C_k17).ores = [] := rfl
theorem C_k17_flags : (C_k17).flags = [(5, [true, true, true, true, true, true, true, true, false, true, false])] := rfl
theorem C_k17_pins : (C_k17).pins = [] := rfl
theorem C_k17_inls : (C_k17).inls = [] := rfl
structure L_k17_0 where
  i : Int
  s_ : Sight
  config_shards : Int
  config_soft : Int
  config_hard : Int
  config_per : Int
  config_bump : Int
  config_feed : Int
  config_workers : Int
  config_room : Int
  pot_taken : Int
  pot_most : Int
  o2 : List Shard
  config_shards2 : Int
  config_soft2 : Int
  config_hard2 : Int
  config_per2 : Int
  config_bump2 : Int
  config_feed2 : Int
  config_workers2 : Int
  config_room2 : Int
  locks : List Int
  pot_taken2 : Int
  pot_most2 : Int
def an_k17_0 : Ann := mkAnn (σ := L_k17_0) (lSkip vUnk <| lSkip (vOne (cPtr 0 0 0)) <| lSkip (vOne (cPtr 1 0 0)) <| lSkip (vOne (cPtr 3 0 0)) <| lCons (vOne cI) <| lSkip vUnk <| lSkip vUnk <| lSkip vUnk <| lSkip vUnk <| lSkip vUnk <| lSkip vUnk <| lSkip vUnk <| lSkip vUnk <| lSkip vUnk <| lSkip vUnk <| lSkip vUnk <| lSkip vUnk <| lSkip vUnk <| lSkip vUnk <| lSkip vUnk <| lSkip vUnk <| lSkip vUnk <| lSkip vUnk <| lSkip vUnk <| lSkip vUnk <| lSkip vUnk <| lSkip vUnk <| lSkip vUnk <| lSkip vUnk <| lSkip vUnk <|  lNil) (lCons (oBox 54 (cStr ceSight)) <| lCons (oBox 32 (lCons cI <| lCons cI <| lCons cI <| lCons cI <| lCons cI <| lCons cI <| lCons cI <| lCons cI <| lSkip cNil <| lCons cI <| lCons cI <| lSkip cNil <|  lNil)) <| lCons (oArr 71 2 ceShard) <| lCons (oBox 32 (lCons cI <| lCons cI <| lCons cI <| lCons cI <| lCons cI <| lCons cI <| lCons cI <| lCons cI <| lCons (cSl ceI) <| lCons cI <| lCons cI <| lCons (cOwn 2) <|  lNil)) <|  lNil)
  (fun a b => L_k17_0.mk (a.1) (b.1) (b.2.1.1) (b.2.1.2.1) (b.2.1.2.2.1) (b.2.1.2.2.2.1) (b.2.1.2.2.2.2.1) (b.2.1.2.2.2.2.2.1) (b.2.1.2.2.2.2.2.2.1) (b.2.1.2.2.2.2.2.2.2.1) (b.2.1.2.2.2.2.2.2.2.2.1) (b.2.1.2.2.2.2.2.2.2.2.2.1) (b.2.2.1) (b.2.2.2.1.1) (b.2.2.2.1.2.1) (b.2.2.2.1.2.2.1) (b.2.2.2.1.2.2.2.1) (b.2.2.2.1.2.2.2.2.1) (b.2.2.2.1.2.2.2.2.2.1) (b.2.2.2.1.2.2.2.2.2.2.1) (b.2.2.2.1.2.2.2.2.2.2.2.1) (b.2.2.2.1.2.2.2.2.2.2.2.2.1) (b.2.2.2.1.2.2.2.2.2.2.2.2.2.1) (b.2.2.2.1.2.2.2.2.2.2.2.2.2.2.1)) (fun s => (s.i, ())) (fun s => (s.s_, (s.config_shards, s.config_soft, s.config_hard, s.config_per, s.config_bump, s.config_feed, s.config_workers, s.config_room, s.pot_taken, s.pot_most, ()), s.o2, (s.config_shards2, s.config_soft2, s.config_hard2, s.config_per2, s.config_bump2, s.config_feed2, s.config_workers2, s.config_room2, s.locks, s.pot_taken2, s.pot_most2, s.o2.length, ()), ())) (fun a b => decide (b.2.2.2.1.2.2.2.2.2.2.2.2.2.2.2.1 = (b.2.2.1).length)) (by rintro ⟨a0, _⟩ ⟨b0, ⟨c1_0, c1_1, c1_2, c1_3, c1_4, c1_5, c1_6, c1_7, c1_8, c1_9, _⟩, b2, ⟨c3_0, c3_1, c3_2, c3_3, c3_4, c3_5, c3_6, c3_7, c3_8, c3_9, c3_10, c3_11, _⟩, _⟩ h; simp at h; simp [h])
set_option maxRecDepth 100000 in
theorem an_k17_0_st (s : an_k17_0.σ) : an_k17_0.st s = (toL 30 (.node (.node (.node (.node (.node (.node (.node (.node (.leaf (.unk)) (.leaf (.v (.one (.ptr 0 0 0))))) (.node (.leaf (.v (.one (.ptr 1 0 0)))) (.leaf (.v (.one (.ptr 3 0 0)))))) (.node (.node (.leaf (.v (.one (.d (.sc (.int .i64 (L_k17_0.i s))))))) (.leaf (.unk))) (.leaf (.unk)))) (.leaf (.unk))) (.leaf (.unk))) (.leaf (.unk))) (.leaf (.unk))) (.leaf (.unk))), [.box 54 (ddv (Sight.c (L_k17_0.s_ s))), .box 32 [.d (.sc (.int .i64 (L_k17_0.config_shards s))), .d (.sc (.int .i64 (L_k17_0.config_soft s))), .d (.sc (.int .i64 (L_k17_0.config_hard s))), .d (.sc (.int .i64 (L_k17_0.config_per s))), .d (.sc (.int .i64 (L_k17_0.config_bump s))), .d (.sc (.int .i64 (L_k17_0.config_feed s))), .d (.sc (.int .i64 (L_k17_0.config_workers s))), .d (.sc (.int .i64 (L_k17_0.config_room s))), .nil, .d (.sc (.int .i64 (L_k17_0.pot_taken s))), .d (.sc (.int .i64 (L_k17_0.pot_most s))), .nil], .arr 71 2 ((L_k17_0.o2 s).map Shard.c), .box 32 [.d (.sc (.int .i64 (L_k17_0.config_shards2 s))), .d (.sc (.int .i64 (L_k17_0.config_soft2 s))), .d (.sc (.int .i64 (L_k17_0.config_hard2 s))), .d (.sc (.int .i64 (L_k17_0.config_per2 s))), .d (.sc (.int .i64 (L_k17_0.config_bump2 s))), .d (.sc (.int .i64 (L_k17_0.config_feed2 s))), .d (.sc (.int .i64 (L_k17_0.config_workers2 s))), .d (.sc (.int .i64 (L_k17_0.config_room2 s))), .d (.sl ((L_k17_0.locks s).map iC)), .d (.sc (.int .i64 (L_k17_0.pot_taken2 s))), .d (.sc (.int .i64 (L_k17_0.pot_most2 s))), .own 2 (L_k17_0.o2 s).length]]) := rfl
set_option maxHeartbeats 4000000 in
set_option maxRecDepth 100000 in
theorem an_k17_0_un {β : Type} (i : Int) (p_s_ : List CV) (config_shards : Int) (config_soft : Int) (config_hard : Int) (config_per : Int) (config_bump : Int) (config_feed : Int) (config_workers : Int) (config_room : Int) (pot_taken : Int) (pot_most : Int) (p_o2 : List (List DV)) (config_shards2 : Int) (config_soft2 : Int) (config_hard2 : Int) (config_per2 : Int) (config_bump2 : Int) (config_feed2 : Int) (config_workers2 : Int) (config_room2 : Int) (p_locks : List (List DV)) (pot_taken2 : Int) (pot_most2 : Int) (m1_o2 : Nat) (f_ : an_k17_0.σ → Option β) : (an_k17_0.un [.unk, .v (.one (.ptr 0 0 0)), .v (.one (.ptr 1 0 0)), .v (.one (.ptr 3 0 0)), .v (.one (.d (.sc (.int .i64 i)))), .unk, .unk, .unk, .unk, .unk, .unk, .unk, .unk, .unk, .unk, .unk, .unk, .unk, .unk, .unk, .unk, .unk, .unk, .unk, .unk, .unk, .unk, .unk, .unk, .unk] [.box 54 p_s_, .box 32 [.d (.sc (.int .i64 config_shards)), .d (.sc (.int .i64 config_soft)), .d (.sc (.int .i64 config_hard)), .d (.sc (.int .i64 config_per)), .d (.sc (.int .i64 config_bump)), .d (.sc (.int .i64 config_feed)), .d (.sc (.int .i64 config_workers)), .d (.sc (.int .i64 config_room)), .nil, .d (.sc (.int .i64 pot_taken)), .d (.sc (.int .i64 pot_most)), .nil], .arr 71 2 p_o2, .box 32 [.d (.sc (.int .i64 config_shards2)), .d (.sc (.int .i64 config_soft2)), .d (.sc (.int .i64 config_hard2)), .d (.sc (.int .i64 config_per2)), .d (.sc (.int .i64 config_bump2)), .d (.sc (.int .i64 config_feed2)), .d (.sc (.int .i64 config_workers2)), .d (.sc (.int .i64 config_room2)), .d (.sl p_locks), .d (.sc (.int .i64 pot_taken2)), .d (.sc (.int .i64 pot_most2)), .own 2 m1_o2]]).bind f_ = ((allD p_s_).bind dSight).bind fun s_ => (decL dShard p_o2).bind fun o2 => (decL iD p_locks).bind fun locks => (if m1_o2 = o2.length then f_ (L_k17_0.mk i s_ config_shards config_soft config_hard config_per config_bump config_feed config_workers config_room pot_taken pot_most o2 config_shards2 config_soft2 config_hard2 config_per2 config_bump2 config_feed2 config_workers2 config_room2 locks pot_taken2 pot_most2) else none) :=
  (mkAnn_un (σ := L_k17_0) _ _ _ _ _ _ _ _ _ f_).trans (by simp (maxSteps := 10000000) [Option.bind_assoc, bind_ite])
def T_k17 : List (Nat × LoopA) := [(0, .ty an_k17_0)]
set_option maxHeartbeats 20000000 in
set_option maxRecDepth 100000 in
noncomputable def pk_k17 : { F : Sight → Option (Sight) // CallC Go.Proofs.Tryz.prog 12 (con1 (eT ceSight) (fun x0 => (F x0).map (res1 (rAgg ceSight)).enc)) } :=
  ⟨_, cc1 E_k17 Go.Proofs.Tryz.func12 rfl rfl (T := T_k17) (G := []) (r := (res1 (rAgg ceSight))) fun x0 => by
    unfold Wf
    simp (maxSteps := 10000000) (implicitDefEqProofs := false) [-env0, -envI, env0_tree, envI_tree, -evOps, -evOne, -evOp, -evIndexAddr, -evIndex, -evPick, -binV, -evLoad, -evStore, -loadC, -callV, -nilC, -storeC, -toDVs, -toDAs, -resRs, List.lookup, List.replicate, List.range_succ, ty_k17, C_k17_ty, C_k17_eqs, C_k17_call, C_k17_calls, C_k17_scal, C_k17_owns, C_k17_vars, C_k17_ores, C_k17_flags, C_k17_pins, C_k17_inls, T_k17, Go.Proofs.Tryz.f12, an_k17_0_st, an_k17_0_un, iC, uC, bC, sC, Acc.c, Config.c, Pot.c, Shard.c, Sight.c, Tx.c]
    try rfl⟩
noncomputable def F_k17 : Sight → Option (Sight) := pk_k17.1
noncomputable def M_k17 : List DA → Option (List RV) := con1 (eT ceSight) (fun x0 => (F_k17 x0).map (res1 (rAgg ceSight)).enc)
theorem cc_k17 : CallC Go.Proofs.Tryz.prog 12 M_k17 := pk_k17.2
theorem en_k16 : Enters Go.Proofs.Tryz.prog 15 := ⟨_, Go.Proofs.Tryz.func15, rfl, rfl⟩
def ty_k16 : List (Nat × TI) := [(48, { size := 32, bytes := 344, agg := true, zero := [.sc (.int .i64 0), .sc (.int .i64 0), .sc (.int .i64 0), .sc (.int .i64 0), .sc (.string "".toByteArray), .sc (.int .i64 0), .sc (.int .i64 0), .sc (.bool false), .sc (.int .i64 0), .sc (.int .i64 0), .sc (.int .i64 0), .sl [], .sl [], .sc (.int .i64 0), .sc (.int .i64 0), .sc (.int .i64 0), .sc (.int .i64 0), .sc (.int .i64 0), .sc (.int .i64 0), .sc (.string "".toByteArray), .sl [], .sc (.int .i64 0), .sc (.int .i64 0), .sc (.int .i64 0), .sc (.int .i64 0), .sc (.int .i64 0), .sc (.int .i64 0), .sc (.int .i64 0), .sc (.string "".toByteArray), .sl [], .sc (.int .i64 0), .sc (.bool false)], kind := .struct [(0, 5, true), (5, 1, false), (6, 1, false), (7, 15, true), (22, 9, true), (31, 1, false)] }), (66, { size := 32, bytes := 344, agg := true, zero := [.sc (.int .i64 0), .sc (.int .i64 0), .sc (.int .i64 0), .sc (.int .i64 0), .sc (.string "".toByteArray), .sc (.int .i64 0), .sc (.int .i64 0), .sc (.bool false), .sc (.int .i64 0), .sc (.int .i64 0), .sc (.int .i64 0), .sl [], .sl [], .sc (.int .i64 0), .sc (.int .i64 0), .sc (.int .i64 0), .sc (.int .i64 0), .sc (.int .i64 0), .sc (.int .i64 0), .sc (.string "".toByteArray), .sl [], .sc (.int .i64 0), .sc (.int .i64 0), .sc (.int .i64 0), .sc (.int .i64 0), .sc (.int .i64 0), .sc (.int .i64 0), .sc (.int .i64 0), .sc (.string "".toByteArray), .sl [], .sc (.int .i64 0), .sc (.bool false)], kind := .struct [(0, 5, true), (5, 1, false), (6, 1, false), (7, 15, true), (22, 9, true), (31, 1, false)] }), (35, { size := 5, bytes := 48, agg := true, zero := [.sc (.int .i64 0), .sc (.int .i64 0), .sc (.int .i64 0), .sc (.int .i64 0), .sc (.string "".toByteArray)], kind := .struct [(0, 1, false), (1, 1, false), (2, 1, false), (3, 1, false), (4, 1, false)] }), (3, { size := 1, bytes := 8, agg := false, zero := [.sc (.int .i64 0)], kind := .int .i64 }), (46, { size := 15, bytes := 176, agg := true, zero := [.sc (.bool false), .sc (.int .i64 0), .sc (.int .i64 0), .sc (.int .i64 0), .sl [], .sl [], .sc (.int .i64 0), .sc (.int .i64 0), .sc (.int .i64 0), .sc (.int .i64 0), .sc (.int .i64 0), .sc (.int .i64 0), .sc (.string "".toByteArray), .sl [], .sc (.int .i64 0)], kind := .struct [(0, 1, false), (1, 1, false), (2, 3, true), (5, 1, false), (6, 9, true)] }), (44, { size := 9, bytes := 96, agg := true, zero := [.sc (.int .i64 0), .sc (.int .i64 0), .sc (.int .i64 0), .sc (.int .i64 0), .sc (.int .i64 0), .sc (.int .i64 0), .sc (.string "".toByteArray), .sl [], .sc (.int .i64 0)], kind := .struct [(0, 1, false), (1, 6, true), (7, 1, false), (8, 1, false)] }), (4, { size := 1, bytes := 1, agg := false, zero := [.sc (.bool false)], kind := .bool })]
noncomputable def C_k16 : Cfg := mkC ty_k16 [] [(30, M_k11)] [] [] [] [] [(1, [true, true, true, true, true, true, true, true, true, true, true, true, true, true, false])]
theorem E_k16 : Env1 Go.Proofs.Tryz.prog C_k16 := mkC_ok (by kernel_rfl) (⟨⟨en_k11, cc_k11⟩, trivial⟩) (by kernel_rfl)
theorem C_k16_ty : (C_k16).ty = ty_k16 := rfl
theorem C_k16_eqs : (C_k16).eqs = [] := rfl
theorem C_k16_call : (C_k16).call = fun f => (([(30, M_k11)] : List (Nat × (List DA → Option (List RV)))).lookup f).getD fun _ => none := rfl
theorem C_k16_calls : (C_k16).calls = [30] := rfl
theorem C_k16_scal : (C_k16).scal = [] := rfl
theorem C_k16_owns : (C_k16).owns = [] := rfl
theorem C_k16_vars : (C_k16).vars = [] := rfl
theorem C_k16_ores : (C_k16).ores = [] := rfl
theorem C_k16_flags : (C_k16).flags = [(1, [true, true, true, true, true, true, true, true, true, true, true, true, true, true, false])] := rfl
theorem C_k16_pins : (C_k16).pins = [] := rfl
theorem C_k16_inls : (C_k16).inls = [] := rfl
def T_k16 : List (Nat × LoopA) := []
set_option maxHeartbeats 20000000 in
set_option maxRecDepth 100000 in
noncomputable def pk_k16 : { F : Task → Option (Task) // CallC Go.Proofs.Tryz.prog 15 (con1 (eT ceTask) (fun x0 => (F x0).map (res1 (rAgg ceTask)).enc)) } :=
  ⟨_, cc1 E_k16 Go.Proofs.Tryz.func15 rfl rfl (T := T_k16) (G := []) (r := (res1 (rAgg ceTask))) fun x0 => by
    unfold Wf
    simp (maxSteps := 10000000) (implicitDefEqProofs := false) [-env0, -envI, env0_tree, envI_tree, -evOps, -evOne, -evOp, -evIndexAddr, -evIndex, -evPick, -binV, -evLoad, -evStore, -loadC, -callV, -nilC, -storeC, -toDVs, -toDAs, -resRs, List.lookup, List.replicate, List.range_succ, ty_k16, C_k16_ty, C_k16_eqs, C_k16_call, C_k16_calls, C_k16_scal, C_k16_owns, C_k16_vars, C_k16_ores, C_k16_flags, C_k16_pins, C_k16_inls, T_k16, Go.Proofs.Tryz.f15, M_k11, iC, uC, bC, sC, Acc.c, Event.c, Op.c, Plan.c, Result.c, Task.c, Tx.c]
    try rfl⟩
noncomputable def F_k16 : Task → Option (Task) := pk_k16.1
noncomputable def M_k16 : List DA → Option (List RV) := con1 (eT ceTask) (fun x0 => (F_k16 x0).map (res1 (rAgg ceTask)).enc)
theorem cc_k16 : CallC Go.Proofs.Tryz.prog 15 M_k16 := pk_k16.2

end Go.Vm

/- What Go functions come to, as Lean functions: each with its contract. -/
set_option linter.unusedVariables false
set_option linter.unusedSimpArgs false
namespace Go.Vm
open Go Go.RowKit

theorem en_k83 : Enters Go.Proofs.Tryz.prog 23 := ⟨_, Go.Proofs.Tryz.func23, rfl, rfl⟩
def ty_k83 : List (Nat × TI) := [(54, { size := 12, bytes := 128, agg := true, zero := [.sc (.int .i64 0), .sc (.int .i64 0), .sc (.int .i64 0), .sc (.int .i64 0), .sc (.int .i64 0), .sc (.int .i64 0), .sc (.int .i64 0), .sc (.int .i64 0), .sl [], .sc (.int .i64 0), .sc (.int .i64 0), .sl []], kind := .struct [(0, 8, true), (8, 1, false), (9, 2, true), (11, 1, false)] }), (26, { size := 8, bytes := 64, agg := true, zero := [.sc (.int .i64 0), .sc (.int .i64 0), .sc (.int .i64 0), .sc (.int .i64 0), .sc (.int .i64 0), .sc (.int .i64 0), .sc (.int .i64 0), .sc (.int .i64 0)], kind := .struct [(0, 1, false), (1, 1, false), (2, 1, false), (3, 1, false), (4, 1, false), (5, 1, false), (6, 1, false), (7, 1, false)] }), (50, { size := 1, bytes := 24, agg := false, zero := [.sl []], kind := .slice 3 }), (3, { size := 1, bytes := 8, agg := false, zero := [.sc (.int .i64 0)], kind := .int .i64 }), (52, { size := 1, bytes := 24, agg := false, zero := [.sl []], kind := .slice 82 }), (51, { size := 2, bytes := 16, agg := true, zero := [.sc (.int .i64 0), .sc (.int .i64 0)], kind := .struct [(0, 1, false), (1, 1, false)] }), (82, { size := 2, bytes := 32, agg := true, zero := [.sl [], .sc (.int .i64 0)], kind := .struct [(0, 1, false), (1, 1, false)] })]
noncomputable def C_k83 : Cfg := mkC ty_k83 [] [(37, M_k2b), (43, M_k6d)] [37, 43] [] [1,3,50,51,52] [] []
theorem E_k83 : Env1 Go.Proofs.Tryz.prog C_k83 := mkC_ok (by kernel_rfl) (⟨⟨en_k2b, cc_k2b⟩, ⟨⟨en_k6d, cc_k6d⟩, trivial⟩⟩) (by kernel_rfl)
theorem C_k83_ty : (C_k83).ty = ty_k83 := rfl
theorem C_k83_eqs : (C_k83).eqs = [] := rfl
theorem C_k83_call : (C_k83).call = fun f => (([(37, M_k2b), (43, M_k6d)] : List (Nat × (List DA → Option (List RV)))).lookup f).getD fun _ => none := rfl
theorem C_k83_calls : (C_k83).calls = [37, 43] := rfl
theorem C_k83_scal : (C_k83).scal = [37, 43] := rfl
theorem C_k83_owns : (C_k83).owns = [] := rfl
theorem C_k83_vars : (C_k83).vars = [1,3,50,51,52] := rfl
theorem C_k83_ores : (C_k83).ores = [] := rfl
theorem C_k83_flags : (C_k83).flags = [] := rfl
theorem C_k83_pins : (C_k83).pins = [] := rfl
theorem C_k83_inls : (C_k83).inls = [] := rfl
structure L_k83_0 where
  v50 : List Shard
  v51 : Int
  v52 : Int
  s_ : Sight
  c : Config
def an_k83_0 : Ann := mkAnn (σ := L_k83_0) (lSkip vUnk <| lSkip (vOne (cPtr 0 0 0)) <| lSkip vUnk <| lSkip (vOne (cPtr 1 0 0)) <| lSkip vUnk <| lSkip vUnk <| lSkip vUnk <| lSkip vUnk <| lSkip vUnk <| lSkip vUnk <| lSkip vUnk <| lSkip vUnk <| lSkip vUnk <| lSkip vUnk <| lSkip vUnk <| lSkip vUnk <| lSkip vUnk <| lSkip vUnk <| lSkip vUnk <| lSkip vUnk <| lSkip vUnk <| lSkip vUnk <| lSkip vUnk <| lSkip vUnk <| lSkip vUnk <| lSkip vUnk <| lSkip vUnk <| lSkip vUnk <| lSkip vUnk <| lSkip vUnk <| lSkip vUnk <| lSkip vUnk <| lSkip vUnk <| lSkip vUnk <| lSkip vUnk <| lSkip vUnk <| lSkip vUnk <| lSkip vUnk <| lSkip vUnk <| lSkip vUnk <| lSkip vUnk <| lSkip vUnk <| lSkip vUnk <| lSkip vUnk <| lSkip vUnk <| lSkip vUnk <| lSkip vUnk <| lSkip vUnk <| lSkip vUnk <| lSkip vUnk <| lCons (vOne (cSl ceShard)) <| lCons (vOne cI) <| lCons (vOne cI) <| lSkip vUnk <| lSkip vUnk <| lSkip vUnk <| lSkip vUnk <| lSkip vUnk <| lSkip vUnk <| lSkip vUnk <| lSkip vUnk <| lSkip vUnk <| lSkip vUnk <| lSkip vUnk <| lSkip vUnk <| lSkip vUnk <| lSkip vUnk <| lSkip vUnk <| lSkip vUnk <| lSkip vUnk <| lSkip vUnk <|  lNil) (lCons (oBox 54 (cStr ceSight)) <| lCons (oBox 26 (cStr ceConfig)) <|  lNil)
  (fun a b => L_k83_0.mk (a.1) (a.2.1) (a.2.2.1) (b.1) (b.2.1)) (fun s => (s.v50, s.v51, s.v52, ())) (fun s => (s.s_, s.c, ())) (fun a b => true) (fun _ _ _ => ⟨rfl, rfl⟩)
set_option maxRecDepth 100000 in
theorem an_k83_0_st (s : an_k83_0.σ) : an_k83_0.st s = (toL 71 (.node (.node (.node (.node (.node (.node (.node (.node (.leaf (.unk)) (.leaf (.v (.one (.ptr 0 0 0))))) (.node (.leaf (.unk)) (.leaf (.v (.one (.ptr 1 0 0)))))) (.leaf (.unk))) (.leaf (.unk))) (.leaf (.unk))) (.node (.leaf (.unk)) (.node (.node (.node (.leaf (.unk)) (.node (.leaf (.v (.one (.d (.sl ((L_k83_0.v50 s).map Shard.c)))))) (.leaf (.v (.one (.d (.sc (.int .i64 (L_k83_0.v51 s))))))))) (.node (.node (.leaf (.v (.one (.d (.sc (.int .i64 (L_k83_0.v52 s))))))) (.leaf (.unk))) (.leaf (.unk)))) (.leaf (.unk))))) (.leaf (.unk))) (.leaf (.unk))), [.box 54 (ddv (Sight.c (L_k83_0.s_ s))), .box 26 (ddv (Config.c (L_k83_0.c s)))]) := rfl
set_option maxHeartbeats 4000000 in
set_option maxRecDepth 100000 in
theorem an_k83_0_un {β : Type} (p_v50 : List (List DV)) (v51 : Int) (v52 : Int) (p_s_ : List CV) (p_c : List CV) (f_ : an_k83_0.σ → Option β) : (an_k83_0.un [.unk, .v (.one (.ptr 0 0 0)), .unk, .v (.one (.ptr 1 0 0)), .unk, .unk, .unk, .unk, .unk, .unk, .unk, .unk, .unk, .unk, .unk, .unk, .unk, .unk, .unk, .unk, .unk, .unk, .unk, .unk, .unk, .unk, .unk, .unk, .unk, .unk, .unk, .unk, .unk, .unk, .unk, .unk, .unk, .unk, .unk, .unk, .unk, .unk, .unk, .unk, .unk, .unk, .unk, .unk, .unk, .unk, .v (.one (.d (.sl p_v50))), .v (.one (.d (.sc (.int .i64 v51)))), .v (.one (.d (.sc (.int .i64 v52)))), .unk, .unk, .unk, .unk, .unk, .unk, .unk, .unk, .unk, .unk, .unk, .unk, .unk, .unk, .unk, .unk, .unk, .unk] [.box 54 p_s_, .box 26 p_c]).bind f_ = (decL dShard p_v50).bind fun v50 => ((allD p_s_).bind dSight).bind fun s_ => ((allD p_c).bind dConfig).bind fun c => f_ (L_k83_0.mk v50 v51 v52 s_ c) :=
  (mkAnn_un (σ := L_k83_0) _ _ _ _ _ _ _ _ _ f_).trans (by simp (maxSteps := 10000000) [Option.bind_assoc])
def T_k83 : List (Nat × LoopA) := [(0, .ty an_k83_0)]
set_option maxHeartbeats 20000000 in
set_option maxRecDepth 100000 in
noncomputable def pk_k83 : { F : Sight → Option (Bool) // CallC Go.Proofs.Tryz.prog 23 (con1 (eT ceSight) (fun x0 => (F x0).map (res1 rB).enc)) } :=
  ⟨_, cc1 E_k83 Go.Proofs.Tryz.func23 rfl rfl (T := T_k83) (G := []) (r := (res1 rB)) fun x0 => by
    unfold Wf
    simp (maxSteps := 10000000) (implicitDefEqProofs := false) [-env0, -envI, env0_tree, envI_tree, -evOps, -evOne, -evOp, -evIndexAddr, -evIndex, -evPick, -binV, -evLoad, -evStore, -loadC, -callV, -nilC, -storeC, -toDVs, -toDAs, -resRs, List.lookup, List.replicate, List.range_succ, ty_k83, C_k83_ty, C_k83_eqs, C_k83_call, C_k83_calls, C_k83_scal, C_k83_owns, C_k83_vars, C_k83_ores, C_k83_flags, C_k83_pins, C_k83_inls, T_k83, Go.Proofs.Tryz.f23, M_k2b, M_k6d, an_k83_0_st, an_k83_0_un, iC, uC, bC, sC, Acc.c, Config.c, Pot.c, Shard.c, Sight.c, Tx.c]
    try rfl⟩
noncomputable def F_k83 : Sight → Option (Bool) := pk_k83.1
noncomputable def M_k83 : List DA → Option (List RV) := con1 (eT ceSight) (fun x0 => (F_k83 x0).map (res1 rB).enc)
theorem cc_k83 : CallC Go.Proofs.Tryz.prog 23 M_k83 := pk_k83.2
theorem en_k8d : Enters Go.Proofs.Tryz.prog 25 := ⟨_, Go.Proofs.Tryz.func25, rfl, rfl⟩
def ty_k8d : List (Nat × TI) := [(48, { size := 32, bytes := 344, agg := true, zero := [.sc (.int .i64 0), .sc (.int .i64 0), .sc (.int .i64 0), .sc (.int .i64 0), .sc (.string "".toByteArray), .sc (.int .i64 0), .sc (.int .i64 0), .sc (.bool false), .sc (.int .i64 0), .sc (.int .i64 0), .sc (.int .i64 0), .sl [], .sl [], .sc (.int .i64 0), .sc (.int .i64 0), .sc (.int .i64 0), .sc (.int .i64 0), .sc (.int .i64 0), .sc (.int .i64 0), .sc (.string "".toByteArray), .sl [], .sc (.int .i64 0), .sc (.int .i64 0), .sc (.int .i64 0), .sc (.int .i64 0), .sc (.int .i64 0), .sc (.int .i64 0), .sc (.int .i64 0), .sc (.string "".toByteArray), .sl [], .sc (.int .i64 0), .sc (.bool false)], kind := .struct [(0, 5, true), (5, 1, false), (6, 1, false), (7, 15, true), (22, 9, true), (31, 1, false)] }), (54, { size := 12, bytes := 128, agg := true, zero := [.sc (.int .i64 0), .sc (.int .i64 0), .sc (.int .i64 0), .sc (.int .i64 0), .sc (.int .i64 0), .sc (.int .i64 0), .sc (.int .i64 0), .sc (.int .i64 0), .sl [], .sc (.int .i64 0), .sc (.int .i64 0), .sl []], kind := .struct [(0, 8, true), (8, 1, false), (9, 2, true), (11, 1, false)] }), (3, { size := 1, bytes := 8, agg := false, zero := [.sc (.int .i64 0)], kind := .int .i64 }), (26, { size := 8, bytes := 64, agg := true, zero := [.sc (.int .i64 0), .sc (.int .i64 0), .sc (.int .i64 0), .sc (.int .i64 0), .sc (.int .i64 0), .sc (.int .i64 0), .sc (.int .i64 0), .sc (.int .i64 0)], kind := .struct [(0, 1, false), (1, 1, false), (2, 1, false), (3, 1, false), (4, 1, false), (5, 1, false), (6, 1, false), (7, 1, false)] })]
noncomputable def C_k8d : Cfg := mkC ty_k8d [] [(44, M_k0b)] [44] [] [] [] []
theorem E_k8d : Env1 Go.Proofs.Tryz.prog C_k8d := mkC_ok (by kernel_rfl) (⟨⟨en_k0b, cc_k0b⟩, trivial⟩) (by kernel_rfl)
theorem C_k8d_ty : (C_k8d).ty = ty_k8d := rfl
theorem C_k8d_eqs : (C_k8d).eqs = [] := rfl
theorem C_k8d_call : (C_k8d).call = fun f => (([(44, M_k0b)] : List (Nat × (List DA → Option (List RV)))).lookup f).getD fun _ => none := rfl
theorem C_k8d_calls : (C_k8d).calls = [44] := rfl
theorem C_k8d_scal : (C_k8d).scal = [44] := rfl
theorem C_k8d_owns : (C_k8d).owns = [] := rfl
theorem C_k8d_vars : (C_k8d).vars = [] := rfl
theorem C_k8d_ores : (C_k8d).ores = [] := rfl
theorem C_k8d_flags : (C_k8d).flags = [] := rfl
theorem C_k8d_pins : (C_k8d).pins = [] := rfl
theorem C_k8d_inls : (C_k8d).inls = [] := rfl
def T_k8d : List (Nat × LoopA) := []
set_option maxHeartbeats 20000000 in
set_option maxRecDepth 100000 in
noncomputable def pk_k8d : { F : Task → Sight → Option (Int) // CallC Go.Proofs.Tryz.prog 25 (con2 (eT ceTask) (eT ceSight) (fun x0 x1 => (F x0 x1).map (res1 rI).enc)) } :=
  ⟨_, cc2 E_k8d Go.Proofs.Tryz.func25 rfl rfl (T := T_k8d) (G := []) (r := (res1 rI)) fun x0 x1 => by
    unfold Wf
    simp (maxSteps := 10000000) (implicitDefEqProofs := false) [-env0, -envI, env0_tree, envI_tree, -evOps, -evOne, -evOp, -evIndexAddr, -evIndex, -evPick, -binV, -evLoad, -evStore, -loadC, -callV, -nilC, -storeC, -toDVs, -toDAs, -resRs, List.lookup, List.replicate, List.range_succ, ty_k8d, C_k8d_ty, C_k8d_eqs, C_k8d_call, C_k8d_calls, C_k8d_scal, C_k8d_owns, C_k8d_vars, C_k8d_ores, C_k8d_flags, C_k8d_pins, C_k8d_inls, T_k8d, Go.Proofs.Tryz.f25, M_k0b, iC, uC, bC, sC, Acc.c, Config.c, Event.c, Op.c, Plan.c, Pot.c, Result.c, Shard.c, Sight.c, Task.c, Tx.c]
    try rfl⟩
noncomputable def F_k8d : Task → Sight → Option (Int) := pk_k8d.1
noncomputable def M_k8d : List DA → Option (List RV) := con2 (eT ceTask) (eT ceSight) (fun x0 x1 => (F_k8d x0 x1).map (res1 rI).enc)
theorem cc_k8d : CallC Go.Proofs.Tryz.prog 25 M_k8d := pk_k8d.2
theorem en_k82 : Enters Go.Proofs.Tryz.prog 10 := ⟨_, Go.Proofs.Tryz.func10, rfl, rfl⟩
def ty_k82 : List (Nat × TI) := [(48, { size := 32, bytes := 344, agg := true, zero := [.sc (.int .i64 0), .sc (.int .i64 0), .sc (.int .i64 0), .sc (.int .i64 0), .sc (.string "".toByteArray), .sc (.int .i64 0), .sc (.int .i64 0), .sc (.bool false), .sc (.int .i64 0), .sc (.int .i64 0), .sc (.int .i64 0), .sl [], .sl [], .sc (.int .i64 0), .sc (.int .i64 0), .sc (.int .i64 0), .sc (.int .i64 0), .sc (.int .i64 0), .sc (.int .i64 0), .sc (.string "".toByteArray), .sl [], .sc (.int .i64 0), .sc (.int .i64 0), .sc (.int .i64 0), .sc (.int .i64 0), .sc (.int .i64 0), .sc (.int .i64 0), .sc (.int .i64 0), .sc (.string "".toByteArray), .sl [], .sc (.int .i64 0), .sc (.bool false)], kind := .struct [(0, 5, true), (5, 1, false), (6, 1, false), (7, 15, true), (22, 9, true), (31, 1, false)] }), (54, { size := 12, bytes := 128, agg := true, zero := [.sc (.int .i64 0), .sc (.int .i64 0), .sc (.int .i64 0), .sc (.int .i64 0), .sc (.int .i64 0), .sc (.int .i64 0), .sc (.int .i64 0), .sc (.int .i64 0), .sl [], .sc (.int .i64 0), .sc (.int .i64 0), .sl []], kind := .struct [(0, 8, true), (8, 1, false), (9, 2, true), (11, 1, false)] }), (3, { size := 1, bytes := 8, agg := false, zero := [.sc (.int .i64 0)], kind := .int .i64 }), (50, { size := 1, bytes := 24, agg := false, zero := [.sl []], kind := .slice 3 })]
noncomputable def C_k82 : Cfg := mkC ty_k82 [] [(23, M_k83), (25, M_k8d), (26, M_k19)] [23, 25, 26] [] [] [] []
theorem E_k82 : Env1 Go.Proofs.Tryz.prog C_k82 := mkC_ok (by kernel_rfl) (⟨⟨en_k83, cc_k83⟩, ⟨⟨en_k8d, cc_k8d⟩, ⟨⟨en_k19, cc_k19⟩, trivial⟩⟩⟩) (by kernel_rfl)
theorem C_k82_ty : (C_k82).ty = ty_k82 := rfl
theorem C_k82_eqs : (C_k82).eqs = [] := rfl
theorem C_k82_call : (C_k82).call = fun f => (([(23, M_k83), (25, M_k8d), (26, M_k19)] : List (Nat × (List DA → Option (List RV)))).lookup f).getD fun _ => none := rfl
theorem C_k82_calls : (C_k82).calls = [23, 25, 26] := rfl
theorem C_k82_scal : (C_k82).scal = [23, 25, 26] := rfl
theorem C_k82_owns : (C_k82).owns = [] := rfl
theorem C_k82_vars : (C_k82).vars = [] := rfl
theorem C_k82_ores : (C_k82).ores = [] := rfl
theorem C_k82_flags : (C_k82).flags = [] := rfl
theorem C_k82_pins : (C_k82).pins = [] := rfl
theorem C_k82_inls : (C_k82).inls = [] := rfl
def T_k82 : List (Nat × LoopA) := []
set_option maxHeartbeats 20000000 in
set_option maxRecDepth 100000 in
noncomputable def pk_k82 : { F : Task → Int → Sight → Option (Bool) // CallC Go.Proofs.Tryz.prog 10 (con3 (eT ceTask) eInt (eT ceSight) (fun x0 x1 x2 => (F x0 x1 x2).map (res1 rB).enc)) } :=
  ⟨_, cc3 E_k82 Go.Proofs.Tryz.func10 rfl rfl (T := T_k82) (G := []) (r := (res1 rB)) fun x0 x1 x2 => by
    unfold Wf
    simp (maxSteps := 10000000) (implicitDefEqProofs := false) [-env0, -envI, env0_tree, envI_tree, -evOps, -evOne, -evOp, -evIndexAddr, -evIndex, -evPick, -binV, -evLoad, -evStore, -loadC, -callV, -nilC, -storeC, -toDVs, -toDAs, -resRs, List.lookup, List.replicate, List.range_succ, ty_k82, C_k82_ty, C_k82_eqs, C_k82_call, C_k82_calls, C_k82_scal, C_k82_owns, C_k82_vars, C_k82_ores, C_k82_flags, C_k82_pins, C_k82_inls, T_k82, Go.Proofs.Tryz.f10, M_k83, M_k8d, M_k19, iC, uC, bC, sC, Acc.c, Config.c, Event.c, Op.c, Plan.c, Pot.c, Result.c, Shard.c, Sight.c, Task.c, Tx.c]
    try rfl⟩
noncomputable def F_k82 : Task → Int → Sight → Option (Bool) := pk_k82.1
noncomputable def M_k82 : List DA → Option (List RV) := con3 (eT ceTask) eInt (eT ceSight) (fun x0 x1 x2 => (F_k82 x0 x1 x2).map (res1 rB).enc)
theorem cc_k82 : CallC Go.Proofs.Tryz.prog 10 M_k82 := pk_k82.2

end Go.Vm

/- What Go functions come to, as Lean functions: each with its contract. -/
set_option linter.unusedVariables false
set_option linter.unusedSimpArgs false
namespace Go.Vm
open Go Go.RowKit

theorem en_k66 : Enters Go.Proofs.Tryz.prog 6 := ⟨_, Go.Proofs.Tryz.func6, rfl, rfl⟩
def ty_k66 : List (Nat × TI) := [(32, { size := 12, bytes := 128, agg := true, zero := [.sc (.int .i64 0), .sc (.int .i64 0), .sc (.int .i64 0), .sc (.int .i64 0), .sc (.int .i64 0), .sc (.int .i64 0), .sc (.int .i64 0), .sc (.int .i64 0), .sl [], .sc (.int .i64 0), .sc (.int .i64 0), .sl []], kind := .struct [(0, 8, true), (8, 1, false), (9, 2, true), (11, 1, false)] }), (26, { size := 8, bytes := 64, agg := true, zero := [.sc (.int .i64 0), .sc (.int .i64 0), .sc (.int .i64 0), .sc (.int .i64 0), .sc (.int .i64 0), .sc (.int .i64 0), .sc (.int .i64 0), .sc (.int .i64 0)], kind := .struct [(0, 1, false), (1, 1, false), (2, 1, false), (3, 1, false), (4, 1, false), (5, 1, false), (6, 1, false), (7, 1, false)] }), (27, { size := 1, bytes := 24, agg := false, zero := [.sl []], kind := .slice 3 }), (3, { size := 1, bytes := 8, agg := false, zero := [.sc (.int .i64 0)], kind := .int .i64 }), (30, { size := 1, bytes := 24, agg := false, zero := [.sl []], kind := .slice 71 }), (29, { size := 2, bytes := 16, agg := true, zero := [.sc (.int .i64 0), .sc (.int .i64 0)], kind := .struct [(0, 1, false), (1, 1, false)] }), (71, { size := 2, bytes := 32, agg := true, zero := [.sl [], .sc (.int .i64 0)], kind := .struct [(0, 1, false), (1, 1, false)] })]
noncomputable def C_k66 : Cfg := mkC ty_k66 [] [(19, M_k5a), (20, M_k56)] [19, 20] [] [1,3,4] [] [(7, [true, false, true, true, false, true, true, true, true, true, true, true, true, true, false, true, true])]
theorem E_k66 : Env1 Go.Proofs.Tryz.prog C_k66 := mkC_ok (by kernel_rfl) (⟨⟨en_k5a, cc_k5a⟩, ⟨⟨en_k56, cc_k56⟩, trivial⟩⟩) (by kernel_rfl)
theorem C_k66_ty : (C_k66).ty = ty_k66 := rfl
theorem C_k66_eqs : (C_k66).eqs = [] := rfl
theorem C_k66_call : (C_k66).call = fun f => (([(19, M_k5a), (20, M_k56)] : List (Nat × (List DA → Option (List RV)))).lookup f).getD fun _ => none := rfl
theorem C_k66_calls : (C_k66).calls = [19, 20] := rfl
theorem C_k66_scal : (C_k66).scal = [19, 20] := rfl
theorem C_k66_owns : (C_k66).owns = [] := rfl
theorem C_k66_vars : (C_k66).vars = [1,3,4] := rfl
theorem C_k66_ores : (C_k66).ores = [] := rfl
theorem C_k66_flags : (C_k66).flags = [(7, [true, false, true, true, false, true, true, true, true, true, true, true, true, true, false, true, true])] := rfl
theorem C_k66_pins : (C_k66).pins = [] := rfl
theorem C_k66_inls : (C_k66).inls = [] := rfl
structure L_k66_0 where
  i : Int
  s_ : Sight
  c : Config
def an_k66_0 : Ann := mkAnn (σ := L_k66_0) (lSkip vUnk <| lSkip (vOne (cPtr 0 0 0)) <| lSkip vUnk <| lSkip (vOne (cPtr 1 0 0)) <| lCons (vOne cI) <| lSkip vUnk <| lSkip vUnk <| lSkip vUnk <| lSkip vUnk <| lSkip vUnk <| lSkip vUnk <| lSkip vUnk <| lSkip vUnk <| lSkip vUnk <| lSkip vUnk <| lSkip vUnk <| lSkip vUnk <| lSkip vUnk <| lSkip vUnk <| lSkip vUnk <| lSkip vUnk <| lSkip vUnk <| lSkip vUnk <| lSkip vUnk <| lSkip vUnk <| lSkip vUnk <| lSkip vUnk <| lSkip vUnk <| lSkip vUnk <| lSkip vUnk <| lSkip vUnk <| lSkip vUnk <| lSkip vUnk <| lSkip vUnk <| lSkip vUnk <| lSkip vUnk <| lSkip vUnk <| lSkip vUnk <| lSkip vUnk <| lSkip vUnk <| lSkip vUnk <| lSkip vUnk <| lSkip vUnk <| lSkip vUnk <| lSkip vUnk <| lSkip vUnk <| lSkip vUnk <| lSkip vUnk <| lSkip vUnk <| lSkip vUnk <| lSkip vUnk <| lSkip vUnk <| lSkip vUnk <| lSkip vUnk <| lSkip vUnk <| lSkip vUnk <| lSkip vUnk <| lSkip vUnk <| lSkip vUnk <| lSkip vUnk <| lSkip vUnk <| lSkip vUnk <| lSkip vUnk <| lSkip vUnk <| lSkip vUnk <| lSkip vUnk <| lSkip vUnk <| lSkip vUnk <| lSkip vUnk <| lSkip vUnk <| lSkip vUnk <|  lNil) (lCons (oBox 32 (cStr ceSight)) <| lCons (oBox 26 (cStr ceConfig)) <|  lNil)
  (fun a b => L_k66_0.mk (a.1) (b.1) (b.2.1)) (fun s => (s.i, ())) (fun s => (s.s_, s.c, ())) (fun a b => true) (fun _ _ _ => ⟨rfl, rfl⟩)
set_option maxRecDepth 100000 in
theorem an_k66_0_st (s : an_k66_0.σ) : an_k66_0.st s = (toL 71 (.node (.node (.node (.node (.node (.node (.node (.node (.leaf (.unk)) (.leaf (.v (.one (.ptr 0 0 0))))) (.node (.leaf (.unk)) (.leaf (.v (.one (.ptr 1 0 0)))))) (.node (.node (.leaf (.v (.one (.d (.sc (.int .i64 (L_k66_0.i s))))))) (.leaf (.unk))) (.leaf (.unk)))) (.leaf (.unk))) (.leaf (.unk))) (.leaf (.unk))) (.leaf (.unk))) (.leaf (.unk))), [.box 32 (ddv (Sight.c (L_k66_0.s_ s))), .box 26 (ddv (Config.c (L_k66_0.c s)))]) := rfl
set_option maxHeartbeats 4000000 in
set_option maxRecDepth 100000 in
theorem an_k66_0_un {β : Type} (i : Int) (p_s_ : List CV) (p_c : List CV) (f_ : an_k66_0.σ → Option β) : (an_k66_0.un [.unk, .v (.one (.ptr 0 0 0)), .unk, .v (.one (.ptr 1 0 0)), .v (.one (.d (.sc (.int .i64 i)))), .unk, .unk, .unk, .unk, .unk, .unk, .unk, .unk, .unk, .unk, .unk, .unk, .unk, .unk, .unk, .unk, .unk, .unk, .unk, .unk, .unk, .unk, .unk, .unk, .unk, .unk, .unk, .unk, .unk, .unk, .unk, .unk, .unk, .unk, .unk, .unk, .unk, .unk, .unk, .unk, .unk, .unk, .unk, .unk, .unk, .unk, .unk, .unk, .unk, .unk, .unk, .unk, .unk, .unk, .unk, .unk, .unk, .unk, .unk, .unk, .unk, .unk, .unk, .unk, .unk, .unk] [.box 32 p_s_, .box 26 p_c]).bind f_ = ((allD p_s_).bind dSight).bind fun s_ => ((allD p_c).bind dConfig).bind fun c => f_ (L_k66_0.mk i s_ c) :=
  (mkAnn_un (σ := L_k66_0) _ _ _ _ _ _ _ _ _ f_).trans (by simp (maxSteps := 10000000) [Option.bind_assoc])
def T_k66 : List (Nat × LoopA) := [(0, .ty an_k66_0)]
set_option maxHeartbeats 20000000 in
set_option maxRecDepth 100000 in
noncomputable def pk_k66 : { F : Sight → Option (Bool) // CallC Go.Proofs.Tryz.prog 6 (con1 (eT ceSight) (fun x0 => (F x0).map (res1 rB).enc)) } :=
  ⟨_, cc1 E_k66 Go.Proofs.Tryz.func6 rfl rfl (T := T_k66) (G := []) (r := (res1 rB)) fun x0 => by
    unfold Wf
    simp (maxSteps := 10000000) (implicitDefEqProofs := false) [-env0, -envI, env0_tree, envI_tree, -evOps, -evOne, -evOp, -evIndexAddr, -evIndex, -evPick, -binV, -evLoad, -evStore, -loadC, -callV, -nilC, -storeC, -toDVs, -toDAs, -resRs, List.lookup, List.replicate, List.range_succ, ty_k66, C_k66_ty, C_k66_eqs, C_k66_call, C_k66_calls, C_k66_scal, C_k66_owns, C_k66_vars, C_k66_ores, C_k66_flags, C_k66_pins, C_k66_inls, T_k66, Go.Proofs.Tryz.f6, M_k5a, M_k56, an_k66_0_st, an_k66_0_un, iC, uC, bC, sC, Acc.c, Config.c, Pot.c, Shard.c, Sight.c, Tx.c]
    try rfl⟩
noncomputable def F_k66 : Sight → Option (Bool) := pk_k66.1
noncomputable def M_k66 : List DA → Option (List RV) := con1 (eT ceSight) (fun x0 => (F_k66 x0).map (res1 rB).enc)
theorem cc_k66 : CallC Go.Proofs.Tryz.prog 6 M_k66 := pk_k66.2

end Go.Vm
