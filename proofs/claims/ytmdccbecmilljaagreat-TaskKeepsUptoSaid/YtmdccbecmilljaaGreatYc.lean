/- What Go functions come to, as Lean functions: each with its contract. -/
import Derived.Test.YtmdccbecmilljaaGreatVd
import Derived.Test.YtmdccbecmilljaaGreatK
import Derived.Test.YtmdccbecmilljaaGreatYa
import Derived.Test.YtmdccbecmilljaaGreatProg

set_option linter.unusedVariables false
set_option linter.unusedSimpArgs false
namespace Go.Vm
open Go Go.RowKit

theorem en_k73 : Enters Go.Proofs.Tryz.prog 86 := ⟨_, Go.Proofs.Tryz.func86, rfl, rfl⟩
def ty_k73 : List (Nat × TI) := [(69, { size := 1, bytes := 24, agg := false, zero := [.sl []], kind := .slice 38 }), (38, { size := 3, bytes := 40, agg := true, zero := [.sc (.int .i64 0), .sc (.int .i64 0), .sl []], kind := .struct [(0, 1, false), (1, 1, false), (2, 1, false)] })]
noncomputable def C_k73 : Cfg := mkC ty_k73 [] [] [] [(2, [(0, 38, 3)])] [] [0] []
theorem E_k73 : Env1 Go.Proofs.Tryz.prog C_k73 := mkC_ok (by kernel_rfl) trivial (by kernel_rfl)
theorem C_k73_ty : (C_k73).ty = ty_k73 := rfl
theorem C_k73_eqs : (C_k73).eqs = [] := rfl
theorem C_k73_call : (C_k73).call = fun f => (([] : List (Nat × (List DA → Option (List RV)))).lookup f).getD fun _ => none := rfl
theorem C_k73_calls : (C_k73).calls = [] := rfl
theorem C_k73_scal : (C_k73).scal = [] := rfl
theorem C_k73_owns : (C_k73).owns = [(2, [(0, 38, 3)])] := rfl
theorem C_k73_vars : (C_k73).vars = [] := rfl
theorem C_k73_ores : (C_k73).ores = [0] := rfl
theorem C_k73_flags : (C_k73).flags = [] := rfl
theorem C_k73_pins : (C_k73).pins = [] := rfl
theorem C_k73_inls : (C_k73).inls = [] := rfl
def T_k73 : List (Nat × LoopA) := []
set_option maxHeartbeats 20000000 in
set_option maxRecDepth 100000 in
noncomputable def pk_k73 : { F : (List Acc) → Option ((List Acc)) // CallC Go.Proofs.Tryz.prog 86 (con1 (eL ceAcc) (fun x0 => (F x0).map (res1 (rOwn 38 3 ceAcc)).enc)) } :=
  ⟨_, cc1 E_k73 Go.Proofs.Tryz.func86 rfl rfl (T := T_k73) (G := []) (r := (res1 (rOwn 38 3 ceAcc))) fun x0 => by
    unfold Wf
    simp (maxSteps := 10000000) (implicitDefEqProofs := false) [-env0, -envI, env0_tree, envI_tree, -evOps, -evOne, -evOp, -evIndexAddr, -evIndex, -evPick, -binV, -evLoad, -evStore, -loadC, -callV, -nilC, -storeC, -toDVs, -toDAs, -resRs, List.lookup, List.replicate, List.range_succ, ty_k73, C_k73_ty, C_k73_eqs, C_k73_call, C_k73_calls, C_k73_scal, C_k73_owns, C_k73_vars, C_k73_ores, C_k73_flags, C_k73_pins, C_k73_inls, T_k73, Go.Proofs.Tryz.f86, iC, uC, bC, sC, Acc.c, Tx.c]
    try rfl⟩
noncomputable def F_k73 : (List Acc) → Option ((List Acc)) := pk_k73.1
noncomputable def M_k73 : List DA → Option (List RV) := con1 (eL ceAcc) (fun x0 => (F_k73 x0).map (res1 (rOwn 38 3 ceAcc)).enc)
theorem cc_k73 : CallC Go.Proofs.Tryz.prog 86 M_k73 := pk_k73.2
theorem en_k70 : Enters Go.Proofs.Tryz.prog 87 := ⟨_, Go.Proofs.Tryz.func87, rfl, rfl⟩
def ty_k70 : List (Nat × TI) := [(38, { size := 3, bytes := 40, agg := true, zero := [.sc (.int .i64 0), .sc (.int .i64 0), .sl []], kind := .struct [(0, 1, false), (1, 1, false), (2, 1, false)] }), (3, { size := 1, bytes := 8, agg := false, zero := [.sc (.int .i64 0)], kind := .int .i64 })]
noncomputable def C_k70 : Cfg := mkC ty_k70 [] [] [] [] [3] [] []
theorem E_k70 : Env1 Go.Proofs.Tryz.prog C_k70 := mkC_ok (by kernel_rfl) trivial (by kernel_rfl)
theorem C_k70_ty : (C_k70).ty = ty_k70 := rfl
theorem C_k70_eqs : (C_k70).eqs = [] := rfl
theorem C_k70_call : (C_k70).call = fun f => (([] : List (Nat × (List DA → Option (List RV)))).lookup f).getD fun _ => none := rfl
theorem C_k70_calls : (C_k70).calls = [] := rfl
theorem C_k70_scal : (C_k70).scal = [] := rfl
theorem C_k70_owns : (C_k70).owns = [] := rfl
theorem C_k70_vars : (C_k70).vars = [3] := rfl
theorem C_k70_ores : (C_k70).ores = [] := rfl
theorem C_k70_flags : (C_k70).flags = [] := rfl
theorem C_k70_pins : (C_k70).pins = [] := rfl
theorem C_k70_inls : (C_k70).inls = [] := rfl
def T_k70 : List (Nat × LoopA) := []
noncomputable def I_k70 : List V1 → Objs → Option (TV × Objs) := Wi C_k70 T_k70 [] Go.Proofs.Tryz.f87
theorem ic_k70 : InlC Go.Proofs.Tryz.prog 87 I_k70 := inlC_of_W E_k70 Go.Proofs.Tryz.func87 rfl rfl
theorem en_k71 : Enters Go.Proofs.Tryz.prog 89 := ⟨_, Go.Proofs.Tryz.func89, rfl, rfl⟩
def ty_k71 : List (Nat × TI) := [(38, { size := 3, bytes := 40, agg := true, zero := [.sc (.int .i64 0), .sc (.int .i64 0), .sl []], kind := .struct [(0, 1, false), (1, 1, false), (2, 1, false)] }), (3, { size := 1, bytes := 8, agg := false, zero := [.sc (.int .i64 0)], kind := .int .i64 })]
noncomputable def C_k71 : Cfg := mkC ty_k71 [] [] [] [] [3] [] []
theorem E_k71 : Env1 Go.Proofs.Tryz.prog C_k71 := mkC_ok (by kernel_rfl) trivial (by kernel_rfl)
theorem C_k71_ty : (C_k71).ty = ty_k71 := rfl
theorem C_k71_eqs : (C_k71).eqs = [] := rfl
theorem C_k71_call : (C_k71).call = fun f => (([] : List (Nat × (List DA → Option (List RV)))).lookup f).getD fun _ => none := rfl
theorem C_k71_calls : (C_k71).calls = [] := rfl
theorem C_k71_scal : (C_k71).scal = [] := rfl
theorem C_k71_owns : (C_k71).owns = [] := rfl
theorem C_k71_vars : (C_k71).vars = [3] := rfl
theorem C_k71_ores : (C_k71).ores = [] := rfl
theorem C_k71_flags : (C_k71).flags = [] := rfl
theorem C_k71_pins : (C_k71).pins = [] := rfl
theorem C_k71_inls : (C_k71).inls = [] := rfl
def T_k71 : List (Nat × LoopA) := []
noncomputable def I_k71 : List V1 → Objs → Option (TV × Objs) := Wi C_k71 T_k71 [] Go.Proofs.Tryz.f89
theorem ic_k71 : InlC Go.Proofs.Tryz.prog 89 I_k71 := inlC_of_W E_k71 Go.Proofs.Tryz.func89 rfl rfl
theorem en_k79 : Enters Go.Proofs.Tryz.prog 88 := ⟨_, Go.Proofs.Tryz.func88, rfl, rfl⟩
def ty_k79 : List (Nat × TI) := [(69, { size := 1, bytes := 24, agg := false, zero := [.sl []], kind := .slice 38 }), (3, { size := 1, bytes := 8, agg := false, zero := [.sc (.int .i64 0)], kind := .int .i64 }), (38, { size := 3, bytes := 40, agg := true, zero := [.sc (.int .i64 0), .sc (.int .i64 0), .sl []], kind := .struct [(0, 1, false), (1, 1, false), (2, 1, false)] })]
noncomputable def C0_k79 : Cfg := mkC ty_k79 [] [] [] [] [0,1,4,7,8] [] []
noncomputable def C_k79 : Cfg := mkI C0_k79 [(87, I_k70), (89, I_k71)]
theorem E0_k79 : Env1 Go.Proofs.Tryz.prog C0_k79 := mkC_ok (by kernel_rfl) trivial (by kernel_rfl)
theorem E_k79 : Env1 Go.Proofs.Tryz.prog C_k79 := mkI_ok E0_k79 (⟨⟨en_k70, ic_k70⟩, ⟨⟨en_k71, ic_k71⟩, trivial⟩⟩)
theorem C_k79_ty : (C_k79).ty = ty_k79 := rfl
theorem C_k79_eqs : (C_k79).eqs = [] := rfl
theorem C_k79_call : (C_k79).call = fun f => (([] : List (Nat × (List DA → Option (List RV)))).lookup f).getD fun _ => none := rfl
theorem C_k79_calls : (C_k79).calls = [] := rfl
theorem C_k79_scal : (C_k79).scal = [] := rfl
theorem C_k79_owns : (C_k79).owns = [] := rfl
theorem C_k79_vars : (C_k79).vars = [0,1,4,7,8] := rfl
theorem C_k79_ores : (C_k79).ores = [] := rfl
theorem C_k79_flags : (C_k79).flags = [] := rfl
theorem C_k79_pins : (C_k79).pins = [] := rfl
theorem C_k79_inls : (C_k79).inls = [87, 89] := rfl
theorem C_k79_inl : (C_k79).inl = fun f => (([(87, I_k70), (89, I_k71)] : List (Nat × (List V1 → Objs → Option (TV × Objs)))).lookup f).getD fun _ _ => none := rfl
structure L_k79_0 where
  v4 : Int
  v7 : Int
  v8 : Int
  o0 : Shard
  o1 : Acc
  version : Int
  s_ : List Acc
  o4 : List Acc
def an_k79_0 : Ann := mkAnn (σ := L_k79_0) (lCons (vOne (cOwn 3)) <| lSkip (vOne (cClo 87 [] [(1, 0)])) <| lSkip vUnk <| lSkip vUnk <| lCons (vOne cI) <| lSkip vUnk <| lSkip vUnk <| lCons (vOne cI) <| lCons (vOne cI) <| lSkip vUnk <| lSkip vUnk <| lSkip vUnk <| lSkip vUnk <| lSkip vUnk <| lSkip vUnk <| lSkip vUnk <| lSkip vUnk <| lSkip vUnk <| lSkip vUnk <|  lNil) (lCons (oBox 82 (cStr ceShard)) <| lCons (oBox 38 (cStr ceAcc)) <| lCons (oBox 82 (lSkip cNil <| lCons cI <|  lNil)) <| lCons (oArr 38 3 ceAcc) <| lCons (oArr 38 3 ceAcc) <|  lNil)
  (fun a b => L_k79_0.mk (a.2.1) (a.2.2.1) (a.2.2.2.1) (b.1) (b.2.1) (b.2.2.1.1) (b.2.2.2.1) (b.2.2.2.2.1)) (fun s => (s.s_.length, s.v4, s.v7, s.v8, ())) (fun s => (s.o0, s.o1, (s.version, ()), s.s_, s.o4, ())) (fun a b => decide (a.1 = (b.2.2.2.1).length)) (by rintro ⟨a0, a1, a2, a3, _⟩ ⟨b0, b1, ⟨c2_0, _⟩, b3, b4, _⟩ h; simp at h; simp [h])
set_option maxRecDepth 100000 in
theorem an_k79_0_st (s : an_k79_0.σ) : an_k79_0.st s = (toL 19 (.node (.node (.node (.node (.node (.node (.node (.node (.leaf (.v (.one (.own 3 (L_k79_0.s_ s).length)))) (.leaf (.v (.one (.clo 87 [] [(1, 0)]))))) (.leaf (.unk))) (.node (.node (.leaf (.v (.one (.d (.sc (.int .i64 (L_k79_0.v4 s))))))) (.leaf (.unk))) (.node (.leaf (.unk)) (.leaf (.v (.one (.d (.sc (.int .i64 (L_k79_0.v7 s)))))))))) (.node (.node (.node (.leaf (.v (.one (.d (.sc (.int .i64 (L_k79_0.v8 s))))))) (.leaf (.unk))) (.leaf (.unk))) (.leaf (.unk)))) (.leaf (.unk))) (.leaf (.unk))) (.leaf (.unk))) (.leaf (.unk))), [.box 82 (ddv (Shard.c (L_k79_0.o0 s))), .box 38 (ddv (Acc.c (L_k79_0.o1 s))), .box 82 [.nil, .d (.sc (.int .i64 (L_k79_0.version s)))], .arr 38 3 ((L_k79_0.s_ s).map Acc.c), .arr 38 3 ((L_k79_0.o4 s).map Acc.c)]) := rfl
set_option maxHeartbeats 4000000 in
set_option maxRecDepth 100000 in
theorem an_k79_0_un {β : Type} (m1_s_ : Nat) (v4 : Int) (v7 : Int) (v8 : Int) (p_o0 : List CV) (p_o1 : List CV) (version : Int) (p_s_ : List (List DV)) (p_o4 : List (List DV)) (f_ : an_k79_0.σ → Option β) : (an_k79_0.un [.v (.one (.own 3 m1_s_)), .v (.one (.clo 87 [] [(1, 0)])), .unk, .unk, .v (.one (.d (.sc (.int .i64 v4)))), .unk, .unk, .v (.one (.d (.sc (.int .i64 v7)))), .v (.one (.d (.sc (.int .i64 v8)))), .unk, .unk, .unk, .unk, .unk, .unk, .unk, .unk, .unk, .unk] [.box 82 p_o0, .box 38 p_o1, .box 82 [.nil, .d (.sc (.int .i64 version))], .arr 38 3 p_s_, .arr 38 3 p_o4]).bind f_ = ((allD p_o0).bind dShard).bind fun o0 => ((allD p_o1).bind dAcc).bind fun o1 => (decL dAcc p_s_).bind fun s_ => (decL dAcc p_o4).bind fun o4 => (if m1_s_ = s_.length then f_ (L_k79_0.mk v4 v7 v8 o0 o1 version s_ o4) else none) :=
  (mkAnn_un (σ := L_k79_0) _ _ _ _ _ _ _ _ _ f_).trans (by simp (maxSteps := 10000000) [Option.bind_assoc, bind_ite])
def T_k79 : List (Nat × LoopA) := [(0, .tr an_k79_0)]
noncomputable def I_k79 : List V1 → Objs → Option (TV × Objs) := Wi C_k79 T_k79 [] Go.Proofs.Tryz.f88
theorem ic_k79 : InlC Go.Proofs.Tryz.prog 88 I_k79 := inlC_of_W E_k79 Go.Proofs.Tryz.func88 rfl rfl
theorem en_k77 : Enters Go.Proofs.Tryz.prog 85 := ⟨_, Go.Proofs.Tryz.func85, rfl, rfl⟩
def ty_k77 : List (Nat × TI) := [(69, { size := 1, bytes := 24, agg := false, zero := [.sl []], kind := .slice 38 }), (100, { size := 1, bytes := 8, agg := false, zero := [.sc .nilFunc], kind := .plain }), (3, { size := 1, bytes := 8, agg := false, zero := [.sc (.int .i64 0)], kind := .int .i64 }), (38, { size := 3, bytes := 40, agg := true, zero := [.sc (.int .i64 0), .sc (.int .i64 0), .sl []], kind := .struct [(0, 1, false), (1, 1, false), (2, 1, false)] })]
noncomputable def C0_k77 : Cfg := mkC ty_k77 [] [] [88] [(4, [(0, 38, 3)])] [0,1,4,5,6] [] []
noncomputable def C_k77 : Cfg := mkI C0_k77 [(88, I_k79), (87, I_k70), (89, I_k71)]
theorem E0_k77 : Env1 Go.Proofs.Tryz.prog C0_k77 := mkC_ok (by kernel_rfl) trivial (by kernel_rfl)
theorem E_k77 : Env1 Go.Proofs.Tryz.prog C_k77 := mkI_ok E0_k77 (⟨⟨en_k79, ic_k79⟩, ⟨⟨en_k70, ic_k70⟩, ⟨⟨en_k71, ic_k71⟩, trivial⟩⟩⟩)
theorem C_k77_ty : (C_k77).ty = ty_k77 := rfl
theorem C_k77_eqs : (C_k77).eqs = [] := rfl
theorem C_k77_call : (C_k77).call = fun f => (([] : List (Nat × (List DA → Option (List RV)))).lookup f).getD fun _ => none := rfl
theorem C_k77_calls : (C_k77).calls = [] := rfl
theorem C_k77_scal : (C_k77).scal = [88] := rfl
theorem C_k77_owns : (C_k77).owns = [(4, [(0, 38, 3)])] := rfl
theorem C_k77_vars : (C_k77).vars = [0,1,4,5,6] := rfl
theorem C_k77_ores : (C_k77).ores = [] := rfl
theorem C_k77_flags : (C_k77).flags = [] := rfl
theorem C_k77_pins : (C_k77).pins = [] := rfl
theorem C_k77_inls : (C_k77).inls = [88, 87, 89] := rfl
theorem C_k77_inl : (C_k77).inl = fun f => (([(88, I_k79), (87, I_k70), (89, I_k71)] : List (Nat × (List V1 → Objs → Option (TV × Objs)))).lookup f).getD fun _ _ => none := rfl
structure L_k77_0 where
  i : Int
  j : Int
  o0 : Shard
  o1 : Acc
  version : Int
  s_ : List Acc
  v4 : List Acc
def an_k77_0 : Ann := mkAnn (σ := L_k77_0) (lCons (vOne (cOwn 3)) <| lSkip (vOne (cClo 87 [] [(1, 0)])) <| lSkip vUnk <| lSkip vUnk <| lCons (vOne (cOwn 4)) <| lCons (vOne cI) <| lCons (vOne cI) <| lSkip vUnk <| lSkip vUnk <| lSkip vUnk <| lSkip vUnk <| lSkip vUnk <| lSkip vUnk <| lSkip vUnk <| lSkip vUnk <| lSkip vUnk <| lSkip vUnk <| lSkip vUnk <| lSkip vUnk <| lSkip vUnk <| lSkip vUnk <| lSkip vUnk <| lSkip vUnk <| lSkip vUnk <| lSkip vUnk <| lSkip vUnk <| lSkip vUnk <| lSkip vUnk <| lSkip vUnk <| lSkip vUnk <| lSkip vUnk <| lSkip vUnk <| lSkip vUnk <| lSkip vUnk <| lSkip vUnk <| lSkip vUnk <| lSkip vUnk <| lSkip vUnk <| lSkip vUnk <| lSkip vUnk <| lSkip vUnk <| lSkip vUnk <|  lNil) (lCons (oBox 82 (cStr ceShard)) <| lCons (oBox 38 (cStr ceAcc)) <| lCons (oBox 82 (lSkip cNil <| lCons cI <|  lNil)) <| lCons (oArr 38 3 ceAcc) <| lCons (oArr 38 3 ceAcc) <|  lNil)
  (fun a b => L_k77_0.mk (a.2.2.1) (a.2.2.2.1) (b.1) (b.2.1) (b.2.2.1.1) (b.2.2.2.1) (b.2.2.2.2.1)) (fun s => (s.s_.length, s.v4.length, s.i, s.j, ())) (fun s => (s.o0, s.o1, (s.version, ()), s.s_, s.v4, ())) (fun a b => decide (a.1 = (b.2.2.2.1).length) && decide (a.2.1 = (b.2.2.2.2.1).length)) (by rintro ⟨a0, a1, a2, a3, _⟩ ⟨b0, b1, ⟨c2_0, _⟩, b3, b4, _⟩ h; simp at h; simp [h])
set_option maxRecDepth 100000 in
theorem an_k77_0_st (s : an_k77_0.σ) : an_k77_0.st s = (toL 42 (.node (.node (.node (.node (.node (.node (.node (.node (.leaf (.v (.one (.own 3 (L_k77_0.s_ s).length)))) (.leaf (.v (.one (.clo 87 [] [(1, 0)]))))) (.leaf (.unk))) (.node (.node (.leaf (.v (.one (.own 4 (L_k77_0.v4 s).length)))) (.leaf (.v (.one (.d (.sc (.int .i64 (L_k77_0.i s)))))))) (.node (.leaf (.v (.one (.d (.sc (.int .i64 (L_k77_0.j s))))))) (.leaf (.unk))))) (.leaf (.unk))) (.leaf (.unk))) (.leaf (.unk))) (.leaf (.unk))) (.leaf (.unk))), [.box 82 (ddv (Shard.c (L_k77_0.o0 s))), .box 38 (ddv (Acc.c (L_k77_0.o1 s))), .box 82 [.nil, .d (.sc (.int .i64 (L_k77_0.version s)))], .arr 38 3 ((L_k77_0.s_ s).map Acc.c), .arr 38 3 ((L_k77_0.v4 s).map Acc.c)]) := rfl
set_option maxHeartbeats 4000000 in
set_option maxRecDepth 100000 in
theorem an_k77_0_un {β : Type} (m1_s_ : Nat) (m2_v4 : Nat) (i : Int) (j : Int) (p_o0 : List CV) (p_o1 : List CV) (version : Int) (p_s_ : List (List DV)) (p_v4 : List (List DV)) (f_ : an_k77_0.σ → Option β) : (an_k77_0.un [.v (.one (.own 3 m1_s_)), .v (.one (.clo 87 [] [(1, 0)])), .unk, .unk, .v (.one (.own 4 m2_v4)), .v (.one (.d (.sc (.int .i64 i)))), .v (.one (.d (.sc (.int .i64 j)))), .unk, .unk, .unk, .unk, .unk, .unk, .unk, .unk, .unk, .unk, .unk, .unk, .unk, .unk, .unk, .unk, .unk, .unk, .unk, .unk, .unk, .unk, .unk, .unk, .unk, .unk, .unk, .unk, .unk, .unk, .unk, .unk, .unk, .unk, .unk] [.box 82 p_o0, .box 38 p_o1, .box 82 [.nil, .d (.sc (.int .i64 version))], .arr 38 3 p_s_, .arr 38 3 p_v4]).bind f_ = ((allD p_o0).bind dShard).bind fun o0 => ((allD p_o1).bind dAcc).bind fun o1 => (decL dAcc p_s_).bind fun s_ => (decL dAcc p_v4).bind fun v4 => (if m1_s_ = s_.length ∧ m2_v4 = v4.length then f_ (L_k77_0.mk i j o0 o1 version s_ v4) else none) :=
  (mkAnn_un (σ := L_k77_0) _ _ _ _ _ _ _ _ _ f_).trans (by simp (maxSteps := 10000000) [Option.bind_assoc, bind_ite])
def T_k77 : List (Nat × LoopA) := [(0, .tr an_k77_0)]
noncomputable def I_k77 : List V1 → Objs → Option (TV × Objs) := cutI (Wi C_k77 T_k77 [] Go.Proofs.Tryz.f85)
theorem ic_k77 : InlC Go.Proofs.Tryz.prog 85 I_k77 := cutI_ok (inlC_of_W E_k77 Go.Proofs.Tryz.func85 rfl rfl)
theorem en_k7a : Enters Go.Proofs.Tryz.prog 88 := ⟨_, Go.Proofs.Tryz.func88, rfl, rfl⟩
def ty_k7a : List (Nat × TI) := [(69, { size := 1, bytes := 24, agg := false, zero := [.sl []], kind := .slice 38 }), (3, { size := 1, bytes := 8, agg := false, zero := [.sc (.int .i64 0)], kind := .int .i64 }), (38, { size := 3, bytes := 40, agg := true, zero := [.sc (.int .i64 0), .sc (.int .i64 0), .sl []], kind := .struct [(0, 1, false), (1, 1, false), (2, 1, false)] })]
noncomputable def C0_k7a : Cfg := mkC ty_k7a [] [] [] [] [0,1,4,7,8] [] []
noncomputable def C_k7a : Cfg := mkI C0_k7a [(87, I_k70), (89, I_k71)]
theorem E0_k7a : Env1 Go.Proofs.Tryz.prog C0_k7a := mkC_ok (by kernel_rfl) trivial (by kernel_rfl)
theorem E_k7a : Env1 Go.Proofs.Tryz.prog C_k7a := mkI_ok E0_k7a (⟨⟨en_k70, ic_k70⟩, ⟨⟨en_k71, ic_k71⟩, trivial⟩⟩)
theorem C_k7a_ty : (C_k7a).ty = ty_k7a := rfl
theorem C_k7a_eqs : (C_k7a).eqs = [] := rfl
theorem C_k7a_call : (C_k7a).call = fun f => (([] : List (Nat × (List DA → Option (List RV)))).lookup f).getD fun _ => none := rfl
theorem C_k7a_calls : (C_k7a).calls = [] := rfl
theorem C_k7a_scal : (C_k7a).scal = [] := rfl
theorem C_k7a_owns : (C_k7a).owns = [] := rfl
theorem C_k7a_vars : (C_k7a).vars = [0,1,4,7,8] := rfl
theorem C_k7a_ores : (C_k7a).ores = [] := rfl
theorem C_k7a_flags : (C_k7a).flags = [] := rfl
theorem C_k7a_pins : (C_k7a).pins = [] := rfl
theorem C_k7a_inls : (C_k7a).inls = [87, 89] := rfl
theorem C_k7a_inl : (C_k7a).inl = fun f => (([(87, I_k70), (89, I_k71)] : List (Nat × (List V1 → Objs → Option (TV × Objs)))).lookup f).getD fun _ _ => none := rfl
structure L_k7a_0 where
  v4 : Int
  v7 : Int
  v8 : Int
  o0 : Shard
  o1 : Acc
  version : Int
  o4 : List Acc
  s_ : List Acc
def an_k7a_0 : Ann := mkAnn (σ := L_k7a_0) (lCons (vOne (cOwn 5)) <| lSkip (vOne (cClo 89 [] [(1, 0)])) <| lSkip vUnk <| lSkip vUnk <| lCons (vOne cI) <| lSkip vUnk <| lSkip vUnk <| lCons (vOne cI) <| lCons (vOne cI) <| lSkip vUnk <| lSkip vUnk <| lSkip vUnk <| lSkip vUnk <| lSkip vUnk <| lSkip vUnk <| lSkip vUnk <| lSkip vUnk <| lSkip vUnk <| lSkip vUnk <|  lNil) (lCons (oBox 82 (cStr ceShard)) <| lCons (oBox 38 (cStr ceAcc)) <| lCons (oBox 82 (lSkip cNil <| lCons cI <|  lNil)) <| lSkip oNil <| lCons (oArr 38 3 ceAcc) <| lCons (oArr 38 3 ceAcc) <|  lNil)
  (fun a b => L_k7a_0.mk (a.2.1) (a.2.2.1) (a.2.2.2.1) (b.1) (b.2.1) (b.2.2.1.1) (b.2.2.2.1) (b.2.2.2.2.1)) (fun s => (s.s_.length, s.v4, s.v7, s.v8, ())) (fun s => (s.o0, s.o1, (s.version, ()), s.o4, s.s_, ())) (fun a b => decide (a.1 = (b.2.2.2.2.1).length)) (by rintro ⟨a0, a1, a2, a3, _⟩ ⟨b0, b1, ⟨c2_0, _⟩, b3, b4, _⟩ h; simp at h; simp [h])
set_option maxRecDepth 100000 in
theorem an_k7a_0_st (s : an_k7a_0.σ) : an_k7a_0.st s = (toL 19 (.node (.node (.node (.node (.node (.node (.node (.node (.leaf (.v (.one (.own 5 (L_k7a_0.s_ s).length)))) (.leaf (.v (.one (.clo 89 [] [(1, 0)]))))) (.leaf (.unk))) (.node (.node (.leaf (.v (.one (.d (.sc (.int .i64 (L_k7a_0.v4 s))))))) (.leaf (.unk))) (.node (.leaf (.unk)) (.leaf (.v (.one (.d (.sc (.int .i64 (L_k7a_0.v7 s)))))))))) (.node (.node (.node (.leaf (.v (.one (.d (.sc (.int .i64 (L_k7a_0.v8 s))))))) (.leaf (.unk))) (.leaf (.unk))) (.leaf (.unk)))) (.leaf (.unk))) (.leaf (.unk))) (.leaf (.unk))) (.leaf (.unk))), [.box 82 (ddv (Shard.c (L_k7a_0.o0 s))), .box 38 (ddv (Acc.c (L_k7a_0.o1 s))), .box 82 [.nil, .d (.sc (.int .i64 (L_k7a_0.version s)))], .nil, .arr 38 3 ((L_k7a_0.o4 s).map Acc.c), .arr 38 3 ((L_k7a_0.s_ s).map Acc.c)]) := rfl
set_option maxHeartbeats 4000000 in
set_option maxRecDepth 100000 in
theorem an_k7a_0_un {β : Type} (m1_s_ : Nat) (v4 : Int) (v7 : Int) (v8 : Int) (p_o0 : List CV) (p_o1 : List CV) (version : Int) (p_o4 : List (List DV)) (p_s_ : List (List DV)) (f_ : an_k7a_0.σ → Option β) : (an_k7a_0.un [.v (.one (.own 5 m1_s_)), .v (.one (.clo 89 [] [(1, 0)])), .unk, .unk, .v (.one (.d (.sc (.int .i64 v4)))), .unk, .unk, .v (.one (.d (.sc (.int .i64 v7)))), .v (.one (.d (.sc (.int .i64 v8)))), .unk, .unk, .unk, .unk, .unk, .unk, .unk, .unk, .unk, .unk] [.box 82 p_o0, .box 38 p_o1, .box 82 [.nil, .d (.sc (.int .i64 version))], .nil, .arr 38 3 p_o4, .arr 38 3 p_s_]).bind f_ = ((allD p_o0).bind dShard).bind fun o0 => ((allD p_o1).bind dAcc).bind fun o1 => (decL dAcc p_o4).bind fun o4 => (decL dAcc p_s_).bind fun s_ => (if m1_s_ = s_.length then f_ (L_k7a_0.mk v4 v7 v8 o0 o1 version o4 s_) else none) :=
  (mkAnn_un (σ := L_k7a_0) _ _ _ _ _ _ _ _ _ f_).trans (by simp (maxSteps := 10000000) [Option.bind_assoc, bind_ite])
def T_k7a : List (Nat × LoopA) := [(0, .tr an_k7a_0)]
noncomputable def I_k7a : List V1 → Objs → Option (TV × Objs) := Wi C_k7a T_k7a [] Go.Proofs.Tryz.f88
theorem ic_k7a : InlC Go.Proofs.Tryz.prog 88 I_k7a := inlC_of_W E_k7a Go.Proofs.Tryz.func88 rfl rfl
theorem en_k6f : Enters Go.Proofs.Tryz.prog 69 := ⟨_, Go.Proofs.Tryz.func69, rfl, rfl⟩
def ty_k6f : List (Nat × TI) := [(82, { size := 2, bytes := 32, agg := true, zero := [.sl [], .sc (.int .i64 0)], kind := .struct [(0, 1, false), (1, 1, false)] }), (38, { size := 3, bytes := 40, agg := true, zero := [.sc (.int .i64 0), .sc (.int .i64 0), .sl []], kind := .struct [(0, 1, false), (1, 1, false), (2, 1, false)] }), (69, { size := 1, bytes := 24, agg := false, zero := [.sl []], kind := .slice 38 }), (100, { size := 1, bytes := 8, agg := false, zero := [.sc .nilFunc], kind := .plain }), (3, { size := 1, bytes := 8, agg := false, zero := [.sc (.int .i64 0)], kind := .int .i64 })]
noncomputable def C0_k6f : Cfg := mkC ty_k6f [] [(86, M_k73), (59, M_k72)] [59, 88] [] [] [] []
noncomputable def C_k6f : Cfg := mkI C0_k6f [(85, I_k77), (88, I_k7a), (90, I_k7c)]
theorem E0_k6f : Env1 Go.Proofs.Tryz.prog C0_k6f := mkC_ok (by kernel_rfl) (⟨⟨en_k73, cc_k73⟩, ⟨⟨en_k72, cc_k72⟩, trivial⟩⟩) (by kernel_rfl)
theorem E_k6f : Env1 Go.Proofs.Tryz.prog C_k6f := mkI_ok E0_k6f (⟨⟨en_k77, ic_k77⟩, ⟨⟨en_k7a, ic_k7a⟩, ⟨⟨en_k7c, ic_k7c⟩, trivial⟩⟩⟩)
theorem C_k6f_ty : (C_k6f).ty = ty_k6f := rfl
theorem C_k6f_eqs : (C_k6f).eqs = [] := rfl
theorem C_k6f_call : (C_k6f).call = fun f => (([(86, M_k73), (59, M_k72)] : List (Nat × (List DA → Option (List RV)))).lookup f).getD fun _ => none := rfl
theorem C_k6f_calls : (C_k6f).calls = [86, 59] := rfl
theorem C_k6f_scal : (C_k6f).scal = [59, 88] := rfl
theorem C_k6f_owns : (C_k6f).owns = [] := rfl
theorem C_k6f_vars : (C_k6f).vars = [] := rfl
theorem C_k6f_ores : (C_k6f).ores = [] := rfl
theorem C_k6f_flags : (C_k6f).flags = [] := rfl
theorem C_k6f_pins : (C_k6f).pins = [] := rfl
theorem C_k6f_inls : (C_k6f).inls = [85, 88, 90] := rfl
theorem C_k6f_inl : (C_k6f).inl = fun f => (([(85, I_k77), (88, I_k7a), (90, I_k7c)] : List (Nat × (List V1 → Objs → Option (TV × Objs)))).lookup f).getD fun _ _ => none := rfl
def T_k6f : List (Nat × LoopA) := []
set_option maxHeartbeats 20000000 in
set_option maxRecDepth 100000 in
noncomputable def pk_k6f : { F : Shard → Acc → Option (Shard) // CallC Go.Proofs.Tryz.prog 69 (con2 (eT ceShard) (eT ceAcc) (fun x0 x1 => (F x0 x1).map (res1 (rAgg ceShard)).enc)) } :=
  ⟨_, cc2 E_k6f Go.Proofs.Tryz.func69 rfl rfl (T := T_k6f) (G := []) (r := (res1 (rAgg ceShard))) fun x0 x1 => by
    unfold Wf
    simp (maxSteps := 10000000) (implicitDefEqProofs := false) [-env0, -envI, env0_tree, envI_tree, -evOps, -evOne, -evOp, -evIndexAddr, -evIndex, -evPick, -binV, -evLoad, -evStore, -loadC, -callV, -nilC, -storeC, -toDVs, -toDAs, -resRs, List.lookup, List.replicate, List.range_succ, ty_k6f, C_k6f_ty, C_k6f_eqs, C_k6f_call, C_k6f_calls, C_k6f_scal, C_k6f_owns, C_k6f_vars, C_k6f_ores, C_k6f_flags, C_k6f_pins, C_k6f_inls, C_k6f_inl, T_k6f, Go.Proofs.Tryz.f69, M_k73, M_k72, iC, uC, bC, sC, Acc.c, Shard.c, Tx.c, ty_k77, C_k77_ty, C_k77_eqs, C_k77_call, C_k77_calls, C_k77_scal, C_k77_owns, C_k77_vars, C_k77_ores, C_k77_flags, C_k77_pins, C_k77_inls, C_k77_inl, T_k77, Go.Proofs.Tryz.f85, an_k77_0_st, an_k77_0_un, ty_k79, C_k79_ty, C_k79_eqs, C_k79_call, C_k79_calls, C_k79_scal, C_k79_owns, C_k79_vars, C_k79_ores, C_k79_flags, C_k79_pins, C_k79_inls, C_k79_inl, T_k79, Go.Proofs.Tryz.f88, an_k79_0_st, an_k79_0_un, ty_k70, C_k70_ty, C_k70_eqs, C_k70_call, C_k70_calls, C_k70_scal, C_k70_owns, C_k70_vars, C_k70_ores, C_k70_flags, C_k70_pins, C_k70_inls, T_k70, Go.Proofs.Tryz.f87, I_k70, Wi, ty_k71, C_k71_ty, C_k71_eqs, C_k71_call, C_k71_calls, C_k71_scal, C_k71_owns, C_k71_vars, C_k71_ores, C_k71_flags, C_k71_pins, C_k71_inls, T_k71, Go.Proofs.Tryz.f89, I_k71, mkI, I_k79, I_k77, cutI, ty_k7a, C_k7a_ty, C_k7a_eqs, C_k7a_call, C_k7a_calls, C_k7a_scal, C_k7a_owns, C_k7a_vars, C_k7a_ores, C_k7a_flags, C_k7a_pins, C_k7a_inls, C_k7a_inl, T_k7a, an_k7a_0_st, an_k7a_0_un, I_k7a, I_k7c, mkI]
    try rfl⟩
noncomputable def F_k6f : Shard → Acc → Option (Shard) := pk_k6f.1
noncomputable def M_k6f : List DA → Option (List RV) := con2 (eT ceShard) (eT ceAcc) (fun x0 x1 => (F_k6f x0 x1).map (res1 (rAgg ceShard)).enc)
theorem cc_k6f : CallC Go.Proofs.Tryz.prog 69 M_k6f := pk_k6f.2

end Go.Vm
