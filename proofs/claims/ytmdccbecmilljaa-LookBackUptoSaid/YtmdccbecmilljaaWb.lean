/- What Go functions come to, as Lean functions: each with its contract. -/
import Derived.Test.YtmdccbecmilljaaWa
import Derived.Test.YtmdccbecmilljaaProg

set_option linter.unusedVariables false
set_option linter.unusedSimpArgs false
namespace Go.Vm
open Go Go.RowKit

/-! ### slices.Clone[[]hopper/api.Tx,hopper/api.Tx] -/
theorem en_slices_Clone_Tx : Enters Go.Proofs.Try.prog 64 := ⟨_, Go.Proofs.Try.func64, rfl, rfl⟩
def ty_slices_Clone_Tx : List (Nat × TI) := [(24, { size := 1, bytes := 24, agg := false, zero := [.sl []], kind := .slice 34 }), (34, { size := 6, bytes := 56, agg := true, zero := [.sc (.int .i64 0), .sc (.int .i64 0), .sc (.int .i64 0), .sc (.int .i64 0), .sc (.int .i64 0), .sc (.string "".toByteArray)], kind := .struct [(0, 1, false), (1, 1, false), (2, 1, false), (3, 1, false), (4, 1, false), (5, 1, false)] })]
noncomputable def C_slices_Clone_Tx : Cfg := mkC ty_slices_Clone_Tx [] [] [] [(2, [(0, 34, 6)])] [] [0] []
theorem E_slices_Clone_Tx : Env1 Go.Proofs.Try.prog C_slices_Clone_Tx := mkC_ok (by kernel_rfl) trivial (by kernel_rfl)
theorem C_slices_Clone_Tx_ty : (C_slices_Clone_Tx).ty = ty_slices_Clone_Tx := rfl
theorem C_slices_Clone_Tx_eqs : (C_slices_Clone_Tx).eqs = [] := rfl
theorem C_slices_Clone_Tx_call : (C_slices_Clone_Tx).call = fun f => (([] : List (Nat × (List DA → Option (List RV)))).lookup f).getD fun _ => none := rfl
theorem C_slices_Clone_Tx_calls : (C_slices_Clone_Tx).calls = [] := rfl
theorem C_slices_Clone_Tx_scal : (C_slices_Clone_Tx).scal = [] := rfl
theorem C_slices_Clone_Tx_owns : (C_slices_Clone_Tx).owns = [(2, [(0, 34, 6)])] := rfl
theorem C_slices_Clone_Tx_vars : (C_slices_Clone_Tx).vars = [] := rfl
theorem C_slices_Clone_Tx_ores : (C_slices_Clone_Tx).ores = [0] := rfl
theorem C_slices_Clone_Tx_flags : (C_slices_Clone_Tx).flags = [] := rfl
theorem C_slices_Clone_Tx_pins : (C_slices_Clone_Tx).pins = [] := rfl
theorem C_slices_Clone_Tx_inls : (C_slices_Clone_Tx).inls = [] := rfl
def T_slices_Clone_Tx : List (Nat × LoopA) := []
set_option maxHeartbeats 20000000 in
set_option maxRecDepth 100000 in
noncomputable def pk_slices_Clone_Tx : { F : (List Tx) → Option ((List Tx)) // CallC Go.Proofs.Try.prog 64 (con1 (eL ceTx) (fun x0 => (F x0).map (res1 (rOwn 34 6 ceTx)).enc)) } :=
  ⟨_, cc1 E_slices_Clone_Tx Go.Proofs.Try.func64 rfl rfl (T := T_slices_Clone_Tx) (G := []) (r := (res1 (rOwn 34 6 ceTx))) fun x0 => by
    unfold Wf
    simp (maxSteps := 10000000) (implicitDefEqProofs := false) [-evOps, -evOne, -evOp, -evIndexAddr, -evIndex, -evPick, -binV, -evLoad, -evStore, -loadC, -callV, -nilC, -storeC, -toDVs, -toDAs, -resRs, List.lookup, List.replicate, List.range_succ, ty_slices_Clone_Tx, C_slices_Clone_Tx_ty, C_slices_Clone_Tx_eqs, C_slices_Clone_Tx_call, C_slices_Clone_Tx_calls, C_slices_Clone_Tx_scal, C_slices_Clone_Tx_owns, C_slices_Clone_Tx_vars, C_slices_Clone_Tx_ores, C_slices_Clone_Tx_flags, C_slices_Clone_Tx_pins, C_slices_Clone_Tx_inls, T_slices_Clone_Tx, Go.Proofs.Try.f64, iC, uC, bC, sC, Tx.c]
    try rfl⟩
noncomputable def F_slices_Clone_Tx : (List Tx) → Option ((List Tx)) := pk_slices_Clone_Tx.1
noncomputable def M_slices_Clone_Tx : List DA → Option (List RV) := con1 (eL ceTx) (fun x0 => (F_slices_Clone_Tx x0).map (res1 (rOwn 34 6 ceTx)).enc)
theorem cc_slices_Clone_Tx : CallC Go.Proofs.Try.prog 64 M_slices_Clone_Tx := pk_slices_Clone_Tx.2
/-! ### hopper/queue.Drop$1 -/
theorem en_queue_Drop1 : Enters Go.Proofs.Try.prog 65 := ⟨_, Go.Proofs.Try.func65, rfl, rfl⟩
def ty_queue_Drop1 : List (Nat × TI) := [(34, { size := 6, bytes := 56, agg := true, zero := [.sc (.int .i64 0), .sc (.int .i64 0), .sc (.int .i64 0), .sc (.int .i64 0), .sc (.int .i64 0), .sc (.string "".toByteArray)], kind := .struct [(0, 1, false), (1, 1, false), (2, 1, false), (3, 1, false), (4, 1, false), (5, 1, false)] }), (3, { size := 1, bytes := 8, agg := false, zero := [.sc (.int .i64 0)], kind := .int .i64 })]
noncomputable def C_queue_Drop1 : Cfg := mkC ty_queue_Drop1 [] [] [] [] [3] [] []
theorem E_queue_Drop1 : Env1 Go.Proofs.Try.prog C_queue_Drop1 := mkC_ok (by kernel_rfl) trivial (by kernel_rfl)
theorem C_queue_Drop1_ty : (C_queue_Drop1).ty = ty_queue_Drop1 := rfl
theorem C_queue_Drop1_eqs : (C_queue_Drop1).eqs = [] := rfl
theorem C_queue_Drop1_call : (C_queue_Drop1).call = fun f => (([] : List (Nat × (List DA → Option (List RV)))).lookup f).getD fun _ => none := rfl
theorem C_queue_Drop1_calls : (C_queue_Drop1).calls = [] := rfl
theorem C_queue_Drop1_scal : (C_queue_Drop1).scal = [] := rfl
theorem C_queue_Drop1_owns : (C_queue_Drop1).owns = [] := rfl
theorem C_queue_Drop1_vars : (C_queue_Drop1).vars = [3] := rfl
theorem C_queue_Drop1_ores : (C_queue_Drop1).ores = [] := rfl
theorem C_queue_Drop1_flags : (C_queue_Drop1).flags = [] := rfl
theorem C_queue_Drop1_pins : (C_queue_Drop1).pins = [] := rfl
theorem C_queue_Drop1_inls : (C_queue_Drop1).inls = [] := rfl
def T_queue_Drop1 : List (Nat × LoopA) := []
noncomputable def I_queue_Drop1 : List V1 → Objs → Option (TV × Objs) := Wi C_queue_Drop1 T_queue_Drop1 [] Go.Proofs.Try.f65
theorem ic_queue_Drop1 : InlC Go.Proofs.Try.prog 65 I_queue_Drop1 := inlC_of_W E_queue_Drop1 Go.Proofs.Try.func65 rfl rfl
/-! ### slices.IndexFunc[[]hopper/api.Tx,hopper/api.Tx] -/
theorem en_slices_IndexFunc_Tx : Enters Go.Proofs.Try.prog 79 := ⟨_, Go.Proofs.Try.func79, rfl, rfl⟩
def ty_slices_IndexFunc_Tx : List (Nat × TI) := [(24, { size := 1, bytes := 24, agg := false, zero := [.sl []], kind := .slice 34 }), (3, { size := 1, bytes := 8, agg := false, zero := [.sc (.int .i64 0)], kind := .int .i64 }), (34, { size := 6, bytes := 56, agg := true, zero := [.sc (.int .i64 0), .sc (.int .i64 0), .sc (.int .i64 0), .sc (.int .i64 0), .sc (.int .i64 0), .sc (.string "".toByteArray)], kind := .struct [(0, 1, false), (1, 1, false), (2, 1, false), (3, 1, false), (4, 1, false), (5, 1, false)] })]
noncomputable def C0_slices_IndexFunc_Tx : Cfg := mkC ty_slices_IndexFunc_Tx [] [] [] [] [0,1,4,7,8] [] []
noncomputable def C_slices_IndexFunc_Tx : Cfg := mkI C0_slices_IndexFunc_Tx [(65, I_queue_Drop1)]
theorem E0_slices_IndexFunc_Tx : Env1 Go.Proofs.Try.prog C0_slices_IndexFunc_Tx := mkC_ok (by kernel_rfl) trivial (by kernel_rfl)
theorem E_slices_IndexFunc_Tx : Env1 Go.Proofs.Try.prog C_slices_IndexFunc_Tx := mkI_ok E0_slices_IndexFunc_Tx (⟨⟨en_queue_Drop1, ic_queue_Drop1⟩, trivial⟩)
theorem C_slices_IndexFunc_Tx_ty : (C_slices_IndexFunc_Tx).ty = ty_slices_IndexFunc_Tx := rfl
theorem C_slices_IndexFunc_Tx_eqs : (C_slices_IndexFunc_Tx).eqs = [] := rfl
theorem C_slices_IndexFunc_Tx_call : (C_slices_IndexFunc_Tx).call = fun f => (([] : List (Nat × (List DA → Option (List RV)))).lookup f).getD fun _ => none := rfl
theorem C_slices_IndexFunc_Tx_calls : (C_slices_IndexFunc_Tx).calls = [] := rfl
theorem C_slices_IndexFunc_Tx_scal : (C_slices_IndexFunc_Tx).scal = [] := rfl
theorem C_slices_IndexFunc_Tx_owns : (C_slices_IndexFunc_Tx).owns = [] := rfl
theorem C_slices_IndexFunc_Tx_vars : (C_slices_IndexFunc_Tx).vars = [0,1,4,7,8] := rfl
theorem C_slices_IndexFunc_Tx_ores : (C_slices_IndexFunc_Tx).ores = [] := rfl
theorem C_slices_IndexFunc_Tx_flags : (C_slices_IndexFunc_Tx).flags = [] := rfl
theorem C_slices_IndexFunc_Tx_pins : (C_slices_IndexFunc_Tx).pins = [] := rfl
theorem C_slices_IndexFunc_Tx_inls : (C_slices_IndexFunc_Tx).inls = [65] := rfl
theorem C_slices_IndexFunc_Tx_inl : (C_slices_IndexFunc_Tx).inl = fun f => (([(65, I_queue_Drop1)] : List (Nat × (List V1 → Objs → Option (TV × Objs)))).lookup f).getD fun _ _ => none := rfl
structure L_slices_IndexFunc_Tx_0 where
  v4 : Int
  v7 : Int
  v8 : Int
  o0 : Acc
  o1 : Int
  sender : Int
  base : Int
  s_ : List Tx
  o4 : List Tx
def an_slices_IndexFunc_Tx_0 : Ann := mkAnn (σ := L_slices_IndexFunc_Tx_0) (lCons (vOne (cOwn 3)) <| lSkip (vOne (cClo 65 [] [(1, 0)])) <| lSkip vUnk <| lSkip vUnk <| lCons (vOne cI) <| lSkip vUnk <| lSkip vUnk <| lCons (vOne cI) <| lCons (vOne cI) <| lSkip vUnk <| lSkip vUnk <| lSkip vUnk <| lSkip vUnk <| lSkip vUnk <| lSkip vUnk <| lSkip vUnk <| lSkip vUnk <| lSkip vUnk <| lSkip vUnk <|  lNil) (lCons (oBox 26 (cStr ceAcc)) <| lCons (oBox 3 (lCons cI <|  lNil)) <| lCons (oBox 26 (lCons cI <| lCons cI <| lSkip cNil <|  lNil)) <| lCons (oArr 34 6 ceTx) <| lCons (oArr 34 6 ceTx) <|  lNil)
  (fun a b => L_slices_IndexFunc_Tx_0.mk (a.2.1) (a.2.2.1) (a.2.2.2.1) (b.1) (b.2.1.1) (b.2.2.1.1) (b.2.2.1.2.1) (b.2.2.2.1) (b.2.2.2.2.1)) (fun s => (s.s_.length, s.v4, s.v7, s.v8, ())) (fun s => (s.o0, (s.o1, ()), (s.sender, s.base, ()), s.s_, s.o4, ())) (fun a b => decide (a.1 = (b.2.2.2.1).length)) (by rintro ⟨a0, a1, a2, a3, _⟩ ⟨b0, ⟨c1_0, _⟩, ⟨c2_0, c2_1, _⟩, b3, b4, _⟩ h; simp at h; simp [h])
theorem an_slices_IndexFunc_Tx_0_st (s : an_slices_IndexFunc_Tx_0.σ) : an_slices_IndexFunc_Tx_0.st s = ([.v (.one (.own 3 (L_slices_IndexFunc_Tx_0.s_ s).length)), .v (.one (.clo 65 [] [(1, 0)])), .unk, .unk, .v (.one (.d (.sc (.int .i64 (L_slices_IndexFunc_Tx_0.v4 s))))), .unk, .unk, .v (.one (.d (.sc (.int .i64 (L_slices_IndexFunc_Tx_0.v7 s))))), .v (.one (.d (.sc (.int .i64 (L_slices_IndexFunc_Tx_0.v8 s))))), .unk, .unk, .unk, .unk, .unk, .unk, .unk, .unk, .unk, .unk], [.box 26 (ddv (Acc.c (L_slices_IndexFunc_Tx_0.o0 s))), .box 3 [.d (.sc (.int .i64 (L_slices_IndexFunc_Tx_0.o1 s)))], .box 26 [.d (.sc (.int .i64 (L_slices_IndexFunc_Tx_0.sender s))), .d (.sc (.int .i64 (L_slices_IndexFunc_Tx_0.base s))), .nil], .arr 34 6 ((L_slices_IndexFunc_Tx_0.s_ s).map Tx.c), .arr 34 6 ((L_slices_IndexFunc_Tx_0.o4 s).map Tx.c)]) := rfl
set_option maxHeartbeats 4000000 in
set_option maxRecDepth 100000 in
theorem an_slices_IndexFunc_Tx_0_un {β : Type} (m1_s_ : Nat) (v4 : Int) (v7 : Int) (v8 : Int) (p_o0 : List CV) (o1 : Int) (sender : Int) (base : Int) (p_s_ : List (List DV)) (p_o4 : List (List DV)) (f_ : an_slices_IndexFunc_Tx_0.σ → Option β) : (an_slices_IndexFunc_Tx_0.un [.v (.one (.own 3 m1_s_)), .v (.one (.clo 65 [] [(1, 0)])), .unk, .unk, .v (.one (.d (.sc (.int .i64 v4)))), .unk, .unk, .v (.one (.d (.sc (.int .i64 v7)))), .v (.one (.d (.sc (.int .i64 v8)))), .unk, .unk, .unk, .unk, .unk, .unk, .unk, .unk, .unk, .unk] [.box 26 p_o0, .box 3 [.d (.sc (.int .i64 o1))], .box 26 [.d (.sc (.int .i64 sender)), .d (.sc (.int .i64 base)), .nil], .arr 34 6 p_s_, .arr 34 6 p_o4]).bind f_ = ((allD p_o0).bind dAcc).bind fun o0 => (decL dTx p_s_).bind fun s_ => (decL dTx p_o4).bind fun o4 => (if m1_s_ = s_.length then f_ (L_slices_IndexFunc_Tx_0.mk v4 v7 v8 o0 o1 sender base s_ o4) else none) :=
  (mkAnn_un (σ := L_slices_IndexFunc_Tx_0) _ _ _ _ _ _ _ _ _ f_).trans (by simp [Option.bind_assoc, bind_ite])
def T_slices_IndexFunc_Tx : List (Nat × LoopA) := [(0, .tr an_slices_IndexFunc_Tx_0)]
noncomputable def I_slices_IndexFunc_Tx : List V1 → Objs → Option (TV × Objs) := Wi C_slices_IndexFunc_Tx T_slices_IndexFunc_Tx [] Go.Proofs.Try.f79
theorem ic_slices_IndexFunc_Tx : InlC Go.Proofs.Try.prog 79 I_slices_IndexFunc_Tx := inlC_of_W E_slices_IndexFunc_Tx Go.Proofs.Try.func79 rfl rfl
/-! ### slices.DeleteFunc[[]hopper/api.Tx,hopper/api.Tx] -/
theorem en_slices_DeleteFunc_Tx : Enters Go.Proofs.Try.prog 63 := ⟨_, Go.Proofs.Try.func63, rfl, rfl⟩
def ty_slices_DeleteFunc_Tx : List (Nat × TI) := [(24, { size := 1, bytes := 24, agg := false, zero := [.sl []], kind := .slice 34 }), (59, { size := 1, bytes := 8, agg := false, zero := [.sc .nilFunc], kind := .plain }), (3, { size := 1, bytes := 8, agg := false, zero := [.sc (.int .i64 0)], kind := .int .i64 }), (34, { size := 6, bytes := 56, agg := true, zero := [.sc (.int .i64 0), .sc (.int .i64 0), .sc (.int .i64 0), .sc (.int .i64 0), .sc (.int .i64 0), .sc (.string "".toByteArray)], kind := .struct [(0, 1, false), (1, 1, false), (2, 1, false), (3, 1, false), (4, 1, false), (5, 1, false)] })]
noncomputable def C0_slices_DeleteFunc_Tx : Cfg := mkC ty_slices_DeleteFunc_Tx [] [] [79] [(4, [(0, 34, 6)])] [0,1,4,5,6] [] []
noncomputable def C_slices_DeleteFunc_Tx : Cfg := mkI C0_slices_DeleteFunc_Tx [(79, I_slices_IndexFunc_Tx), (65, I_queue_Drop1)]
theorem E0_slices_DeleteFunc_Tx : Env1 Go.Proofs.Try.prog C0_slices_DeleteFunc_Tx := mkC_ok (by kernel_rfl) trivial (by kernel_rfl)
theorem E_slices_DeleteFunc_Tx : Env1 Go.Proofs.Try.prog C_slices_DeleteFunc_Tx := mkI_ok E0_slices_DeleteFunc_Tx (⟨⟨en_slices_IndexFunc_Tx, ic_slices_IndexFunc_Tx⟩, ⟨⟨en_queue_Drop1, ic_queue_Drop1⟩, trivial⟩⟩)
theorem C_slices_DeleteFunc_Tx_ty : (C_slices_DeleteFunc_Tx).ty = ty_slices_DeleteFunc_Tx := rfl
theorem C_slices_DeleteFunc_Tx_eqs : (C_slices_DeleteFunc_Tx).eqs = [] := rfl
theorem C_slices_DeleteFunc_Tx_call : (C_slices_DeleteFunc_Tx).call = fun f => (([] : List (Nat × (List DA → Option (List RV)))).lookup f).getD fun _ => none := rfl
theorem C_slices_DeleteFunc_Tx_calls : (C_slices_DeleteFunc_Tx).calls = [] := rfl
theorem C_slices_DeleteFunc_Tx_scal : (C_slices_DeleteFunc_Tx).scal = [79] := rfl
theorem C_slices_DeleteFunc_Tx_owns : (C_slices_DeleteFunc_Tx).owns = [(4, [(0, 34, 6)])] := rfl
theorem C_slices_DeleteFunc_Tx_vars : (C_slices_DeleteFunc_Tx).vars = [0,1,4,5,6] := rfl
theorem C_slices_DeleteFunc_Tx_ores : (C_slices_DeleteFunc_Tx).ores = [] := rfl
theorem C_slices_DeleteFunc_Tx_flags : (C_slices_DeleteFunc_Tx).flags = [] := rfl
theorem C_slices_DeleteFunc_Tx_pins : (C_slices_DeleteFunc_Tx).pins = [] := rfl
theorem C_slices_DeleteFunc_Tx_inls : (C_slices_DeleteFunc_Tx).inls = [79, 65] := rfl
theorem C_slices_DeleteFunc_Tx_inl : (C_slices_DeleteFunc_Tx).inl = fun f => (([(79, I_slices_IndexFunc_Tx), (65, I_queue_Drop1)] : List (Nat × (List V1 → Objs → Option (TV × Objs)))).lookup f).getD fun _ _ => none := rfl
structure L_slices_DeleteFunc_Tx_0 where
  i : Int
  j : Int
  o0 : Acc
  o1 : Int
  sender : Int
  base : Int
  s_ : List Tx
  v4 : List Tx
def an_slices_DeleteFunc_Tx_0 : Ann := mkAnn (σ := L_slices_DeleteFunc_Tx_0) (lCons (vOne (cOwn 3)) <| lSkip (vOne (cClo 65 [] [(1, 0)])) <| lSkip vUnk <| lSkip vUnk <| lCons (vOne (cOwn 4)) <| lCons (vOne cI) <| lCons (vOne cI) <| lSkip vUnk <| lSkip vUnk <| lSkip vUnk <| lSkip vUnk <| lSkip vUnk <| lSkip vUnk <| lSkip vUnk <| lSkip vUnk <| lSkip vUnk <| lSkip vUnk <| lSkip vUnk <| lSkip vUnk <| lSkip vUnk <| lSkip vUnk <| lSkip vUnk <| lSkip vUnk <| lSkip vUnk <| lSkip vUnk <| lSkip vUnk <| lSkip vUnk <| lSkip vUnk <| lSkip vUnk <| lSkip vUnk <| lSkip vUnk <| lSkip vUnk <| lSkip vUnk <| lSkip vUnk <| lSkip vUnk <| lSkip vUnk <| lSkip vUnk <| lSkip vUnk <| lSkip vUnk <| lSkip vUnk <| lSkip vUnk <| lSkip vUnk <|  lNil) (lCons (oBox 26 (cStr ceAcc)) <| lCons (oBox 3 (lCons cI <|  lNil)) <| lCons (oBox 26 (lCons cI <| lCons cI <| lSkip cNil <|  lNil)) <| lCons (oArr 34 6 ceTx) <| lCons (oArr 34 6 ceTx) <|  lNil)
  (fun a b => L_slices_DeleteFunc_Tx_0.mk (a.2.2.1) (a.2.2.2.1) (b.1) (b.2.1.1) (b.2.2.1.1) (b.2.2.1.2.1) (b.2.2.2.1) (b.2.2.2.2.1)) (fun s => (s.s_.length, s.v4.length, s.i, s.j, ())) (fun s => (s.o0, (s.o1, ()), (s.sender, s.base, ()), s.s_, s.v4, ())) (fun a b => decide (a.1 = (b.2.2.2.1).length) && decide (a.2.1 = (b.2.2.2.2.1).length)) (by rintro ⟨a0, a1, a2, a3, _⟩ ⟨b0, ⟨c1_0, _⟩, ⟨c2_0, c2_1, _⟩, b3, b4, _⟩ h; simp at h; simp [h])
theorem an_slices_DeleteFunc_Tx_0_st (s : an_slices_DeleteFunc_Tx_0.σ) : an_slices_DeleteFunc_Tx_0.st s = ([.v (.one (.own 3 (L_slices_DeleteFunc_Tx_0.s_ s).length)), .v (.one (.clo 65 [] [(1, 0)])), .unk, .unk, .v (.one (.own 4 (L_slices_DeleteFunc_Tx_0.v4 s).length)), .v (.one (.d (.sc (.int .i64 (L_slices_DeleteFunc_Tx_0.i s))))), .v (.one (.d (.sc (.int .i64 (L_slices_DeleteFunc_Tx_0.j s))))), .unk, .unk, .unk, .unk, .unk, .unk, .unk, .unk, .unk, .unk, .unk, .unk, .unk, .unk, .unk, .unk, .unk, .unk, .unk, .unk, .unk, .unk, .unk, .unk, .unk, .unk, .unk, .unk, .unk, .unk, .unk, .unk, .unk, .unk, .unk], [.box 26 (ddv (Acc.c (L_slices_DeleteFunc_Tx_0.o0 s))), .box 3 [.d (.sc (.int .i64 (L_slices_DeleteFunc_Tx_0.o1 s)))], .box 26 [.d (.sc (.int .i64 (L_slices_DeleteFunc_Tx_0.sender s))), .d (.sc (.int .i64 (L_slices_DeleteFunc_Tx_0.base s))), .nil], .arr 34 6 ((L_slices_DeleteFunc_Tx_0.s_ s).map Tx.c), .arr 34 6 ((L_slices_DeleteFunc_Tx_0.v4 s).map Tx.c)]) := rfl
set_option maxHeartbeats 4000000 in
set_option maxRecDepth 100000 in
theorem an_slices_DeleteFunc_Tx_0_un {β : Type} (m1_s_ : Nat) (m2_v4 : Nat) (i : Int) (j : Int) (p_o0 : List CV) (o1 : Int) (sender : Int) (base : Int) (p_s_ : List (List DV)) (p_v4 : List (List DV)) (f_ : an_slices_DeleteFunc_Tx_0.σ → Option β) : (an_slices_DeleteFunc_Tx_0.un [.v (.one (.own 3 m1_s_)), .v (.one (.clo 65 [] [(1, 0)])), .unk, .unk, .v (.one (.own 4 m2_v4)), .v (.one (.d (.sc (.int .i64 i)))), .v (.one (.d (.sc (.int .i64 j)))), .unk, .unk, .unk, .unk, .unk, .unk, .unk, .unk, .unk, .unk, .unk, .unk, .unk, .unk, .unk, .unk, .unk, .unk, .unk, .unk, .unk, .unk, .unk, .unk, .unk, .unk, .unk, .unk, .unk, .unk, .unk, .unk, .unk, .unk, .unk] [.box 26 p_o0, .box 3 [.d (.sc (.int .i64 o1))], .box 26 [.d (.sc (.int .i64 sender)), .d (.sc (.int .i64 base)), .nil], .arr 34 6 p_s_, .arr 34 6 p_v4]).bind f_ = ((allD p_o0).bind dAcc).bind fun o0 => (decL dTx p_s_).bind fun s_ => (decL dTx p_v4).bind fun v4 => (if m1_s_ = s_.length ∧ m2_v4 = v4.length then f_ (L_slices_DeleteFunc_Tx_0.mk i j o0 o1 sender base s_ v4) else none) :=
  (mkAnn_un (σ := L_slices_DeleteFunc_Tx_0) _ _ _ _ _ _ _ _ _ f_).trans (by simp [Option.bind_assoc, bind_ite])
def T_slices_DeleteFunc_Tx : List (Nat × LoopA) := [(0, .tr an_slices_DeleteFunc_Tx_0)]
noncomputable def I_slices_DeleteFunc_Tx : List V1 → Objs → Option (TV × Objs) := Wi C_slices_DeleteFunc_Tx T_slices_DeleteFunc_Tx [] Go.Proofs.Try.f63
theorem ic_slices_DeleteFunc_Tx : InlC Go.Proofs.Try.prog 63 I_slices_DeleteFunc_Tx := inlC_of_W E_slices_DeleteFunc_Tx Go.Proofs.Try.func63 rfl rfl
/-! ### hopper/queue.Drop -/
theorem en_queue_Drop : Enters Go.Proofs.Try.prog 39 := ⟨_, Go.Proofs.Try.func39, rfl, rfl⟩
def ty_queue_Drop : List (Nat × TI) := [(26, { size := 3, bytes := 40, agg := true, zero := [.sc (.int .i64 0), .sc (.int .i64 0), .sl []], kind := .struct [(0, 1, false), (1, 1, false), (2, 1, false)] }), (3, { size := 1, bytes := 8, agg := false, zero := [.sc (.int .i64 0)], kind := .int .i64 }), (24, { size := 1, bytes := 24, agg := false, zero := [.sl []], kind := .slice 34 }), (59, { size := 1, bytes := 8, agg := false, zero := [.sc .nilFunc], kind := .plain }), (34, { size := 6, bytes := 56, agg := true, zero := [.sc (.int .i64 0), .sc (.int .i64 0), .sc (.int .i64 0), .sc (.int .i64 0), .sc (.int .i64 0), .sc (.string "".toByteArray)], kind := .struct [(0, 1, false), (1, 1, false), (2, 1, false), (3, 1, false), (4, 1, false), (5, 1, false)] })]
noncomputable def C0_queue_Drop : Cfg := mkC ty_queue_Drop [] [(64, M_slices_Clone_Tx)] [] [] [] [] []
noncomputable def C_queue_Drop : Cfg := mkI C0_queue_Drop [(63, I_slices_DeleteFunc_Tx)]
theorem E0_queue_Drop : Env1 Go.Proofs.Try.prog C0_queue_Drop := mkC_ok (by kernel_rfl) (⟨⟨en_slices_Clone_Tx, cc_slices_Clone_Tx⟩, trivial⟩) (by kernel_rfl)
theorem E_queue_Drop : Env1 Go.Proofs.Try.prog C_queue_Drop := mkI_ok E0_queue_Drop (⟨⟨en_slices_DeleteFunc_Tx, ic_slices_DeleteFunc_Tx⟩, trivial⟩)
theorem C_queue_Drop_ty : (C_queue_Drop).ty = ty_queue_Drop := rfl
theorem C_queue_Drop_eqs : (C_queue_Drop).eqs = [] := rfl
theorem C_queue_Drop_call : (C_queue_Drop).call = fun f => (([(64, M_slices_Clone_Tx)] : List (Nat × (List DA → Option (List RV)))).lookup f).getD fun _ => none := rfl
theorem C_queue_Drop_calls : (C_queue_Drop).calls = [64] := rfl
theorem C_queue_Drop_scal : (C_queue_Drop).scal = [] := rfl
theorem C_queue_Drop_owns : (C_queue_Drop).owns = [] := rfl
theorem C_queue_Drop_vars : (C_queue_Drop).vars = [] := rfl
theorem C_queue_Drop_ores : (C_queue_Drop).ores = [] := rfl
theorem C_queue_Drop_flags : (C_queue_Drop).flags = [] := rfl
theorem C_queue_Drop_pins : (C_queue_Drop).pins = [] := rfl
theorem C_queue_Drop_inls : (C_queue_Drop).inls = [63] := rfl
theorem C_queue_Drop_inl : (C_queue_Drop).inl = fun f => (([(63, I_slices_DeleteFunc_Tx)] : List (Nat × (List V1 → Objs → Option (TV × Objs)))).lookup f).getD fun _ _ => none := rfl
def T_queue_Drop : List (Nat × LoopA) := []
set_option maxHeartbeats 20000000 in
set_option maxRecDepth 100000 in
noncomputable def pk_queue_Drop : { F : Acc → Int → Option (Acc) // CallC Go.Proofs.Try.prog 39 (con2 (eT ceAcc) eInt (fun x0 x1 => (F x0 x1).map (res1 (rAgg ceAcc)).enc)) } :=
  ⟨_, cc2 E_queue_Drop Go.Proofs.Try.func39 rfl rfl (T := T_queue_Drop) (G := []) (r := (res1 (rAgg ceAcc))) fun x0 x1 => by
    unfold Wf
    simp (maxSteps := 10000000) (implicitDefEqProofs := false) [-evOps, -evOne, -evOp, -evIndexAddr, -evIndex, -evPick, -binV, -evLoad, -evStore, -loadC, -callV, -nilC, -storeC, -toDVs, -toDAs, -resRs, List.lookup, List.replicate, List.range_succ, ty_queue_Drop, C_queue_Drop_ty, C_queue_Drop_eqs, C_queue_Drop_call, C_queue_Drop_calls, C_queue_Drop_scal, C_queue_Drop_owns, C_queue_Drop_vars, C_queue_Drop_ores, C_queue_Drop_flags, C_queue_Drop_pins, C_queue_Drop_inls, C_queue_Drop_inl, T_queue_Drop, Go.Proofs.Try.f39, M_slices_Clone_Tx, iC, uC, bC, sC, Acc.c, Tx.c, ty_slices_DeleteFunc_Tx, C_slices_DeleteFunc_Tx_ty, C_slices_DeleteFunc_Tx_eqs, C_slices_DeleteFunc_Tx_call, C_slices_DeleteFunc_Tx_calls, C_slices_DeleteFunc_Tx_scal, C_slices_DeleteFunc_Tx_owns, C_slices_DeleteFunc_Tx_vars, C_slices_DeleteFunc_Tx_ores, C_slices_DeleteFunc_Tx_flags, C_slices_DeleteFunc_Tx_pins, C_slices_DeleteFunc_Tx_inls, C_slices_DeleteFunc_Tx_inl, T_slices_DeleteFunc_Tx, Go.Proofs.Try.f63, an_slices_DeleteFunc_Tx_0_st, an_slices_DeleteFunc_Tx_0_un, ty_slices_IndexFunc_Tx, C_slices_IndexFunc_Tx_ty, C_slices_IndexFunc_Tx_eqs, C_slices_IndexFunc_Tx_call, C_slices_IndexFunc_Tx_calls, C_slices_IndexFunc_Tx_scal, C_slices_IndexFunc_Tx_owns, C_slices_IndexFunc_Tx_vars, C_slices_IndexFunc_Tx_ores, C_slices_IndexFunc_Tx_flags, C_slices_IndexFunc_Tx_pins, C_slices_IndexFunc_Tx_inls, C_slices_IndexFunc_Tx_inl, T_slices_IndexFunc_Tx, Go.Proofs.Try.f79, an_slices_IndexFunc_Tx_0_st, an_slices_IndexFunc_Tx_0_un, ty_queue_Drop1, C_queue_Drop1_ty, C_queue_Drop1_eqs, C_queue_Drop1_call, C_queue_Drop1_calls, C_queue_Drop1_scal, C_queue_Drop1_owns, C_queue_Drop1_vars, C_queue_Drop1_ores, C_queue_Drop1_flags, C_queue_Drop1_pins, C_queue_Drop1_inls, T_queue_Drop1, Go.Proofs.Try.f65, I_queue_Drop1, Wi, mkI, I_slices_IndexFunc_Tx, I_slices_DeleteFunc_Tx, mkI]
    try rfl⟩
noncomputable def F_queue_Drop : Acc → Int → Option (Acc) := pk_queue_Drop.1
noncomputable def M_queue_Drop : List DA → Option (List RV) := con2 (eT ceAcc) eInt (fun x0 x1 => (F_queue_Drop x0 x1).map (res1 (rAgg ceAcc)).enc)
theorem cc_queue_Drop : CallC Go.Proofs.Try.prog 39 M_queue_Drop := pk_queue_Drop.2

end Go.Vm

/- What Go functions come to, as Lean functions: each with its contract. -/
set_option linter.unusedVariables false
set_option linter.unusedSimpArgs false
namespace Go.Vm
open Go Go.RowKit

/-! ### hopper/hopperref13.Events -/
theorem en_r13_Events : Enters Go.Proofs.Try.prog 36 := ⟨_, Go.Proofs.Try.func36, rfl, rfl⟩
def ty_r13_Events : List (Nat × TI) := [(31, { size := 1, bytes := 24, agg := false, zero := [.sl []], kind := .slice 65 }), (3, { size := 1, bytes := 8, agg := false, zero := [.sc (.int .i64 0)], kind := .int .i64 }), (65, { size := 8, bytes := 72, agg := true, zero := [.sc (.int .i64 0), .sc (.int .i64 0), .sc (.int .i64 0), .sc (.int .i64 0), .sc (.int .i64 0), .sc (.int .i64 0), .sc (.string "".toByteArray), .sc (.int .i64 0)], kind := .struct [(0, 1, false), (1, 6, true), (7, 1, false)] })]
noncomputable def C_r13_Events : Cfg := mkC ty_r13_Events [(65, [.i .i64, .i .i64, .i .i64, .i .i64, .i .i64, .i .i64, .s, .i .i64])] [] [] [] [0,1,5] [] [(6, [true, true, true, true, true, true, true, true, true])]
theorem E_r13_Events : Env1 Go.Proofs.Try.prog C_r13_Events := mkC_ok (by kernel_rfl) trivial (by kernel_rfl)
theorem C_r13_Events_ty : (C_r13_Events).ty = ty_r13_Events := rfl
theorem C_r13_Events_eqs : (C_r13_Events).eqs = [(65, [.i .i64, .i .i64, .i .i64, .i .i64, .i .i64, .i .i64, .s, .i .i64])] := rfl
theorem C_r13_Events_call : (C_r13_Events).call = fun f => (([] : List (Nat × (List DA → Option (List RV)))).lookup f).getD fun _ => none := rfl
theorem C_r13_Events_calls : (C_r13_Events).calls = [] := rfl
theorem C_r13_Events_scal : (C_r13_Events).scal = [] := rfl
theorem C_r13_Events_owns : (C_r13_Events).owns = [] := rfl
theorem C_r13_Events_vars : (C_r13_Events).vars = [0,1,5] := rfl
theorem C_r13_Events_ores : (C_r13_Events).ores = [] := rfl
theorem C_r13_Events_flags : (C_r13_Events).flags = [(6, [true, true, true, true, true, true, true, true, true])] := rfl
theorem C_r13_Events_pins : (C_r13_Events).pins = [] := rfl
theorem C_r13_Events_inls : (C_r13_Events).inls = [] := rfl
structure L_r13_Events_0 where
  a_ : List Event
  b_ : List Event
  i : Int
def an_r13_Events_0 : Ann := mkAnn (σ := L_r13_Events_0) (lCons (vOne (cSl ceEvent)) <| lCons (vOne (cSl ceEvent)) <| lSkip vUnk <| lSkip vUnk <| lSkip vUnk <| lCons (vOne cI) <| lSkip vUnk <| lSkip vUnk <| lSkip vUnk <| lSkip vUnk <| lSkip vUnk <| lSkip vUnk <| lSkip vUnk <| lSkip vUnk <| lSkip vUnk <| lSkip vUnk <| lSkip vUnk <| lSkip vUnk <| lSkip vUnk <| lSkip vUnk <| lSkip vUnk <| lSkip vUnk <| lSkip vUnk <| lSkip vUnk <| lSkip vUnk <| lSkip vUnk <|  lNil) ( lNil)
  (fun a b => L_r13_Events_0.mk (a.1) (a.2.1) (a.2.2.1)) (fun s => (s.a_, s.b_, s.i, ())) (fun s => (())) (fun a b => true) (fun _ _ _ => ⟨rfl, rfl⟩)
theorem an_r13_Events_0_st (s : an_r13_Events_0.σ) : an_r13_Events_0.st s = ([.v (.one (.d (.sl ((L_r13_Events_0.a_ s).map Event.c)))), .v (.one (.d (.sl ((L_r13_Events_0.b_ s).map Event.c)))), .unk, .unk, .unk, .v (.one (.d (.sc (.int .i64 (L_r13_Events_0.i s))))), .unk, .unk, .unk, .unk, .unk, .unk, .unk, .unk, .unk, .unk, .unk, .unk, .unk, .unk, .unk, .unk, .unk, .unk, .unk, .unk], []) := rfl
set_option maxHeartbeats 4000000 in
set_option maxRecDepth 100000 in
theorem an_r13_Events_0_un {β : Type} (p_a_ : List (List DV)) (p_b_ : List (List DV)) (i : Int) (f_ : an_r13_Events_0.σ → Option β) : (an_r13_Events_0.un [.v (.one (.d (.sl p_a_))), .v (.one (.d (.sl p_b_))), .unk, .unk, .unk, .v (.one (.d (.sc (.int .i64 i)))), .unk, .unk, .unk, .unk, .unk, .unk, .unk, .unk, .unk, .unk, .unk, .unk, .unk, .unk, .unk, .unk, .unk, .unk, .unk, .unk] []).bind f_ = (decL dEvent p_a_).bind fun a_ => (decL dEvent p_b_).bind fun b_ => f_ (L_r13_Events_0.mk a_ b_ i) :=
  (mkAnn_un (σ := L_r13_Events_0) _ _ _ _ _ _ _ _ _ f_).trans (by simp [Option.bind_assoc])
def T_r13_Events : List (Nat × LoopA) := [(0, .ty an_r13_Events_0)]
set_option maxHeartbeats 20000000 in
set_option maxRecDepth 100000 in
noncomputable def pk_r13_Events : { F : (List Event) → (List Event) → Option (Bool) // CallC Go.Proofs.Try.prog 36 (con2 (eL ceEvent) (eL ceEvent) (fun x0 x1 => (F x0 x1).map (res1 rB).enc)) } :=
  ⟨_, cc2 E_r13_Events Go.Proofs.Try.func36 rfl rfl (T := T_r13_Events) (G := []) (r := (res1 rB)) fun x0 x1 => by
    unfold Wf
    simp (maxSteps := 10000000) (implicitDefEqProofs := false) [-evOps, -evOne, -evOp, -evIndexAddr, -evIndex, -evPick, -binV, -evLoad, -evStore, -loadC, -callV, -nilC, -storeC, -toDVs, -toDAs, -resRs, List.lookup, List.replicate, List.range_succ, ty_r13_Events, C_r13_Events_ty, C_r13_Events_eqs, C_r13_Events_call, C_r13_Events_calls, C_r13_Events_scal, C_r13_Events_owns, C_r13_Events_vars, C_r13_Events_ores, C_r13_Events_flags, C_r13_Events_pins, C_r13_Events_inls, T_r13_Events, Go.Proofs.Try.f36, an_r13_Events_0_st, an_r13_Events_0_un, iC, uC, bC, sC, Event.c, Tx.c]
    try rfl⟩
noncomputable def F_r13_Events : (List Event) → (List Event) → Option (Bool) := pk_r13_Events.1
noncomputable def M_r13_Events : List DA → Option (List RV) := con2 (eL ceEvent) (eL ceEvent) (fun x0 x1 => (F_r13_Events x0 x1).map (res1 rB).enc)
theorem cc_r13_Events : CallC Go.Proofs.Try.prog 36 M_r13_Events := pk_r13_Events.2
/-! ### hopper/codec.TakeText -/
theorem en_codec_TakeText : Enters Go.Proofs.Try.prog 57 := ⟨_, Go.Proofs.Try.func57, rfl, rfl⟩
def ty_codec_TakeText : List (Nat × TI) := [(9, { size := 1, bytes := 16, agg := false, zero := [.sc (.string "".toByteArray)], kind := .str }), (3, { size := 1, bytes := 8, agg := false, zero := [.sc (.int .i64 0)], kind := .int .i64 }), (105, { size := 1, bytes := 24, agg := false, zero := [.sl []], kind := .slice 5 }), (5, { size := 1, bytes := 1, agg := false, zero := [.sc (.int .u8 0)], kind := .int .u8 })]
noncomputable def C_codec_TakeText : Cfg := mkC ty_codec_TakeText [] [(75, M_codec_cut), (76, M_codec_value)] [76] [] [] [] []
theorem E_codec_TakeText : Env1 Go.Proofs.Try.prog C_codec_TakeText := mkC_ok (by kernel_rfl) (⟨⟨en_codec_cut, cc_codec_cut⟩, ⟨⟨en_codec_value, cc_codec_value⟩, trivial⟩⟩) (by kernel_rfl)
theorem C_codec_TakeText_ty : (C_codec_TakeText).ty = ty_codec_TakeText := rfl
theorem C_codec_TakeText_eqs : (C_codec_TakeText).eqs = [] := rfl
theorem C_codec_TakeText_call : (C_codec_TakeText).call = fun f => (([(75, M_codec_cut), (76, M_codec_value)] : List (Nat × (List DA → Option (List RV)))).lookup f).getD fun _ => none := rfl
theorem C_codec_TakeText_calls : (C_codec_TakeText).calls = [75, 76] := rfl
theorem C_codec_TakeText_scal : (C_codec_TakeText).scal = [76] := rfl
theorem C_codec_TakeText_owns : (C_codec_TakeText).owns = [] := rfl
theorem C_codec_TakeText_vars : (C_codec_TakeText).vars = [] := rfl
theorem C_codec_TakeText_ores : (C_codec_TakeText).ores = [] := rfl
theorem C_codec_TakeText_flags : (C_codec_TakeText).flags = [] := rfl
theorem C_codec_TakeText_pins : (C_codec_TakeText).pins = [] := rfl
theorem C_codec_TakeText_inls : (C_codec_TakeText).inls = [] := rfl
def T_codec_TakeText : List (Nat × LoopA) := []
set_option maxHeartbeats 20000000 in
set_option maxRecDepth 100000 in
noncomputable def pk_codec_TakeText : { F : ByteArray → Int → Option (ByteArray × ByteArray × Bool) // CallC Go.Proofs.Try.prog 57 (con2 eStr eInt (fun x0 x1 => (F x0 x1).map (res3 rS rS rB).enc)) } :=
  ⟨_, cc2 E_codec_TakeText Go.Proofs.Try.func57 rfl rfl (T := T_codec_TakeText) (G := []) (r := (res3 rS rS rB)) fun x0 x1 => by
    unfold Wf
    simp (maxSteps := 10000000) (implicitDefEqProofs := false) [-evOps, -evOne, -evOp, -evIndexAddr, -evIndex, -evPick, -binV, -evLoad, -evStore, -loadC, -callV, -nilC, -storeC, -toDVs, -toDAs, -resRs, List.lookup, List.replicate, List.range_succ, ty_codec_TakeText, C_codec_TakeText_ty, C_codec_TakeText_eqs, C_codec_TakeText_call, C_codec_TakeText_calls, C_codec_TakeText_scal, C_codec_TakeText_owns, C_codec_TakeText_vars, C_codec_TakeText_ores, C_codec_TakeText_flags, C_codec_TakeText_pins, C_codec_TakeText_inls, T_codec_TakeText, Go.Proofs.Try.f57, M_codec_cut, M_codec_value, iC, uC, bC, sC]
    try rfl⟩
noncomputable def F_codec_TakeText : ByteArray → Int → Option (ByteArray × ByteArray × Bool) := pk_codec_TakeText.1
noncomputable def M_codec_TakeText : List DA → Option (List RV) := con2 eStr eInt (fun x0 x1 => (F_codec_TakeText x0 x1).map (res3 rS rS rB).enc)
theorem cc_codec_TakeText : CallC Go.Proofs.Try.prog 57 M_codec_TakeText := pk_codec_TakeText.2
/-! ### internal/stringslite.HasPrefix -/
theorem en_stl_HasPrefix : Enters Go.Proofs.Try.prog 84 := ⟨_, Go.Proofs.Try.func84, rfl, rfl⟩
def ty_stl_HasPrefix : List (Nat × TI) := [(9, { size := 1, bytes := 16, agg := false, zero := [.sc (.string "".toByteArray)], kind := .str }), (3, { size := 1, bytes := 8, agg := false, zero := [.sc (.int .i64 0)], kind := .int .i64 })]
noncomputable def C_stl_HasPrefix : Cfg := mkC ty_stl_HasPrefix [] [] [] [] [] [] []
theorem E_stl_HasPrefix : Env1 Go.Proofs.Try.prog C_stl_HasPrefix := mkC_ok (by kernel_rfl) trivial (by kernel_rfl)
theorem C_stl_HasPrefix_ty : (C_stl_HasPrefix).ty = ty_stl_HasPrefix := rfl
theorem C_stl_HasPrefix_eqs : (C_stl_HasPrefix).eqs = [] := rfl
theorem C_stl_HasPrefix_call : (C_stl_HasPrefix).call = fun f => (([] : List (Nat × (List DA → Option (List RV)))).lookup f).getD fun _ => none := rfl
theorem C_stl_HasPrefix_calls : (C_stl_HasPrefix).calls = [] := rfl
theorem C_stl_HasPrefix_scal : (C_stl_HasPrefix).scal = [] := rfl
theorem C_stl_HasPrefix_owns : (C_stl_HasPrefix).owns = [] := rfl
theorem C_stl_HasPrefix_vars : (C_stl_HasPrefix).vars = [] := rfl
theorem C_stl_HasPrefix_ores : (C_stl_HasPrefix).ores = [] := rfl
theorem C_stl_HasPrefix_flags : (C_stl_HasPrefix).flags = [] := rfl
theorem C_stl_HasPrefix_pins : (C_stl_HasPrefix).pins = [] := rfl
theorem C_stl_HasPrefix_inls : (C_stl_HasPrefix).inls = [] := rfl
def T_stl_HasPrefix : List (Nat × LoopA) := []
set_option maxHeartbeats 20000000 in
set_option maxRecDepth 100000 in
noncomputable def pk_stl_HasPrefix : { F : ByteArray → ByteArray → Option (Bool) // CallC Go.Proofs.Try.prog 84 (con2 eStr eStr (fun x0 x1 => (F x0 x1).map (res1 rB).enc)) } :=
  ⟨_, cc2 E_stl_HasPrefix Go.Proofs.Try.func84 rfl rfl (T := T_stl_HasPrefix) (G := []) (r := (res1 rB)) fun x0 x1 => by
    unfold Wf
    simp (maxSteps := 10000000) (implicitDefEqProofs := false) [-evOps, -evOne, -evOp, -evIndexAddr, -evIndex, -evPick, -binV, -evLoad, -evStore, -loadC, -callV, -nilC, -storeC, -toDVs, -toDAs, -resRs, List.lookup, List.replicate, List.range_succ, ty_stl_HasPrefix, C_stl_HasPrefix_ty, C_stl_HasPrefix_eqs, C_stl_HasPrefix_call, C_stl_HasPrefix_calls, C_stl_HasPrefix_scal, C_stl_HasPrefix_owns, C_stl_HasPrefix_vars, C_stl_HasPrefix_ores, C_stl_HasPrefix_flags, C_stl_HasPrefix_pins, C_stl_HasPrefix_inls, T_stl_HasPrefix, Go.Proofs.Try.f84, iC, uC, bC, sC]
    try rfl⟩
noncomputable def F_stl_HasPrefix : ByteArray → ByteArray → Option (Bool) := pk_stl_HasPrefix.1
noncomputable def M_stl_HasPrefix : List DA → Option (List RV) := con2 eStr eStr (fun x0 x1 => (F_stl_HasPrefix x0 x1).map (res1 rB).enc)
theorem cc_stl_HasPrefix : CallC Go.Proofs.Try.prog 84 M_stl_HasPrefix := pk_stl_HasPrefix.2
/-! ### internal/stringslite.CutPrefix -/
theorem en_stl_CutPrefix : Enters Go.Proofs.Try.prog 74 := ⟨_, Go.Proofs.Try.func74, rfl, rfl⟩
def ty_stl_CutPrefix : List (Nat × TI) := [(9, { size := 1, bytes := 16, agg := false, zero := [.sc (.string "".toByteArray)], kind := .str })]
noncomputable def C_stl_CutPrefix : Cfg := mkC ty_stl_CutPrefix [] [(84, M_stl_HasPrefix)] [84] [] [] [] []
theorem E_stl_CutPrefix : Env1 Go.Proofs.Try.prog C_stl_CutPrefix := mkC_ok (by kernel_rfl) (⟨⟨en_stl_HasPrefix, cc_stl_HasPrefix⟩, trivial⟩) (by kernel_rfl)
theorem C_stl_CutPrefix_ty : (C_stl_CutPrefix).ty = ty_stl_CutPrefix := rfl
theorem C_stl_CutPrefix_eqs : (C_stl_CutPrefix).eqs = [] := rfl
theorem C_stl_CutPrefix_call : (C_stl_CutPrefix).call = fun f => (([(84, M_stl_HasPrefix)] : List (Nat × (List DA → Option (List RV)))).lookup f).getD fun _ => none := rfl
theorem C_stl_CutPrefix_calls : (C_stl_CutPrefix).calls = [84] := rfl
theorem C_stl_CutPrefix_scal : (C_stl_CutPrefix).scal = [84] := rfl
theorem C_stl_CutPrefix_owns : (C_stl_CutPrefix).owns = [] := rfl
theorem C_stl_CutPrefix_vars : (C_stl_CutPrefix).vars = [] := rfl
theorem C_stl_CutPrefix_ores : (C_stl_CutPrefix).ores = [] := rfl
theorem C_stl_CutPrefix_flags : (C_stl_CutPrefix).flags = [] := rfl
theorem C_stl_CutPrefix_pins : (C_stl_CutPrefix).pins = [] := rfl
theorem C_stl_CutPrefix_inls : (C_stl_CutPrefix).inls = [] := rfl
def T_stl_CutPrefix : List (Nat × LoopA) := []
set_option maxHeartbeats 20000000 in
set_option maxRecDepth 100000 in
noncomputable def pk_stl_CutPrefix : { F : ByteArray → ByteArray → Option (ByteArray × Bool) // CallC Go.Proofs.Try.prog 74 (con2 eStr eStr (fun x0 x1 => (F x0 x1).map (res2 rS rB).enc)) } :=
  ⟨_, cc2 E_stl_CutPrefix Go.Proofs.Try.func74 rfl rfl (T := T_stl_CutPrefix) (G := []) (r := (res2 rS rB)) fun x0 x1 => by
    unfold Wf
    simp (maxSteps := 10000000) (implicitDefEqProofs := false) [-evOps, -evOne, -evOp, -evIndexAddr, -evIndex, -evPick, -binV, -evLoad, -evStore, -loadC, -callV, -nilC, -storeC, -toDVs, -toDAs, -resRs, List.lookup, List.replicate, List.range_succ, ty_stl_CutPrefix, C_stl_CutPrefix_ty, C_stl_CutPrefix_eqs, C_stl_CutPrefix_call, C_stl_CutPrefix_calls, C_stl_CutPrefix_scal, C_stl_CutPrefix_owns, C_stl_CutPrefix_vars, C_stl_CutPrefix_ores, C_stl_CutPrefix_flags, C_stl_CutPrefix_pins, C_stl_CutPrefix_inls, T_stl_CutPrefix, Go.Proofs.Try.f74, M_stl_HasPrefix, iC, uC, bC, sC]
    try rfl⟩
noncomputable def F_stl_CutPrefix : ByteArray → ByteArray → Option (ByteArray × Bool) := pk_stl_CutPrefix.1
noncomputable def M_stl_CutPrefix : List DA → Option (List RV) := con2 eStr eStr (fun x0 x1 => (F_stl_CutPrefix x0 x1).map (res2 rS rB).enc)
theorem cc_stl_CutPrefix : CallC Go.Proofs.Try.prog 74 M_stl_CutPrefix := pk_stl_CutPrefix.2
/-! ### strings.CutPrefix -/
theorem en_str_CutPrefix : Enters Go.Proofs.Try.prog 55 := ⟨_, Go.Proofs.Try.func55, rfl, rfl⟩
def ty_str_CutPrefix : List (Nat × TI) := [(9, { size := 1, bytes := 16, agg := false, zero := [.sc (.string "".toByteArray)], kind := .str })]
noncomputable def C_str_CutPrefix : Cfg := mkC ty_str_CutPrefix [] [(74, M_stl_CutPrefix)] [74] [] [] [] []
theorem E_str_CutPrefix : Env1 Go.Proofs.Try.prog C_str_CutPrefix := mkC_ok (by kernel_rfl) (⟨⟨en_stl_CutPrefix, cc_stl_CutPrefix⟩, trivial⟩) (by kernel_rfl)
theorem C_str_CutPrefix_ty : (C_str_CutPrefix).ty = ty_str_CutPrefix := rfl
theorem C_str_CutPrefix_eqs : (C_str_CutPrefix).eqs = [] := rfl
theorem C_str_CutPrefix_call : (C_str_CutPrefix).call = fun f => (([(74, M_stl_CutPrefix)] : List (Nat × (List DA → Option (List RV)))).lookup f).getD fun _ => none := rfl
theorem C_str_CutPrefix_calls : (C_str_CutPrefix).calls = [74] := rfl
theorem C_str_CutPrefix_scal : (C_str_CutPrefix).scal = [74] := rfl
theorem C_str_CutPrefix_owns : (C_str_CutPrefix).owns = [] := rfl
theorem C_str_CutPrefix_vars : (C_str_CutPrefix).vars = [] := rfl
theorem C_str_CutPrefix_ores : (C_str_CutPrefix).ores = [] := rfl
theorem C_str_CutPrefix_flags : (C_str_CutPrefix).flags = [] := rfl
theorem C_str_CutPrefix_pins : (C_str_CutPrefix).pins = [] := rfl
theorem C_str_CutPrefix_inls : (C_str_CutPrefix).inls = [] := rfl
def T_str_CutPrefix : List (Nat × LoopA) := []
set_option maxHeartbeats 20000000 in
set_option maxRecDepth 100000 in
noncomputable def pk_str_CutPrefix : { F : ByteArray → ByteArray → Option (ByteArray × Bool) // CallC Go.Proofs.Try.prog 55 (con2 eStr eStr (fun x0 x1 => (F x0 x1).map (res2 rS rB).enc)) } :=
  ⟨_, cc2 E_str_CutPrefix Go.Proofs.Try.func55 rfl rfl (T := T_str_CutPrefix) (G := []) (r := (res2 rS rB)) fun x0 x1 => by
    unfold Wf
    simp (maxSteps := 10000000) (implicitDefEqProofs := false) [-evOps, -evOne, -evOp, -evIndexAddr, -evIndex, -evPick, -binV, -evLoad, -evStore, -loadC, -callV, -nilC, -storeC, -toDVs, -toDAs, -resRs, List.lookup, List.replicate, List.range_succ, ty_str_CutPrefix, C_str_CutPrefix_ty, C_str_CutPrefix_eqs, C_str_CutPrefix_call, C_str_CutPrefix_calls, C_str_CutPrefix_scal, C_str_CutPrefix_owns, C_str_CutPrefix_vars, C_str_CutPrefix_ores, C_str_CutPrefix_flags, C_str_CutPrefix_pins, C_str_CutPrefix_inls, T_str_CutPrefix, Go.Proofs.Try.f55, M_stl_CutPrefix, iC, uC, bC, sC]
    try rfl⟩
noncomputable def F_str_CutPrefix : ByteArray → ByteArray → Option (ByteArray × Bool) := pk_str_CutPrefix.1
noncomputable def M_str_CutPrefix : List DA → Option (List RV) := con2 eStr eStr (fun x0 x1 => (F_str_CutPrefix x0 x1).map (res2 rS rB).enc)
theorem cc_str_CutPrefix : CallC Go.Proofs.Try.prog 55 M_str_CutPrefix := pk_str_CutPrefix.2
/-! ### hopper/hopperlaw15.Told -/
theorem en_law15_Told : Enters Go.Proofs.Try.prog 14 := ⟨_, Go.Proofs.Try.func14, rfl, rfl⟩
def ty_law15_Told : List (Nat × TI) := [(38, { size := 15, bytes := 176, agg := true, zero := [.sc (.bool false), .sc (.int .i64 0), .sc (.int .i64 0), .sc (.int .i64 0), .sl [], .sl [], .sc (.int .i64 0), .sc (.int .i64 0), .sc (.int .i64 0), .sc (.int .i64 0), .sc (.int .i64 0), .sc (.int .i64 0), .sc (.string "".toByteArray), .sl [], .sc (.int .i64 0)], kind := .struct [(0, 1, false), (1, 1, false), (2, 3, true), (5, 1, false), (6, 9, true)] }), (43, { size := 15, bytes := 176, agg := true, zero := [.sc (.bool false), .sc (.int .i64 0), .sc (.int .i64 0), .sc (.int .i64 0), .sl [], .sl [], .sc (.int .i64 0), .sc (.int .i64 0), .sc (.int .i64 0), .sc (.int .i64 0), .sc (.int .i64 0), .sc (.int .i64 0), .sc (.string "".toByteArray), .sl [], .sc (.int .i64 0)], kind := .struct [(0, 1, false), (1, 1, false), (2, 3, true), (5, 1, false), (6, 9, true)] }), (4, { size := 1, bytes := 1, agg := false, zero := [.sc (.bool false)], kind := .bool }), (3, { size := 1, bytes := 8, agg := false, zero := [.sc (.int .i64 0)], kind := .int .i64 }), (26, { size := 3, bytes := 40, agg := true, zero := [.sc (.int .i64 0), .sc (.int .i64 0), .sl []], kind := .struct [(0, 1, false), (1, 1, false), (2, 1, false)] }), (31, { size := 1, bytes := 24, agg := false, zero := [.sl []], kind := .slice 65 }), (36, { size := 9, bytes := 96, agg := true, zero := [.sc (.int .i64 0), .sc (.int .i64 0), .sc (.int .i64 0), .sc (.int .i64 0), .sc (.int .i64 0), .sc (.int .i64 0), .sc (.string "".toByteArray), .sl [], .sc (.int .i64 0)], kind := .struct [(0, 1, false), (1, 6, true), (7, 1, false), (8, 1, false)] }), (65, { size := 8, bytes := 72, agg := true, zero := [.sc (.int .i64 0), .sc (.int .i64 0), .sc (.int .i64 0), .sc (.int .i64 0), .sc (.int .i64 0), .sc (.int .i64 0), .sc (.string "".toByteArray), .sc (.int .i64 0)], kind := .struct [(0, 1, false), (1, 6, true), (7, 1, false)] })]
noncomputable def C_law15_Told : Cfg := mkC ty_law15_Told [] [] [] [] [] [] []
theorem E_law15_Told : Env1 Go.Proofs.Try.prog C_law15_Told := mkC_ok (by kernel_rfl) trivial (by kernel_rfl)
theorem C_law15_Told_ty : (C_law15_Told).ty = ty_law15_Told := rfl
theorem C_law15_Told_eqs : (C_law15_Told).eqs = [] := rfl
theorem C_law15_Told_call : (C_law15_Told).call = fun f => (([] : List (Nat × (List DA → Option (List RV)))).lookup f).getD fun _ => none := rfl
theorem C_law15_Told_calls : (C_law15_Told).calls = [] := rfl
theorem C_law15_Told_scal : (C_law15_Told).scal = [] := rfl
theorem C_law15_Told_owns : (C_law15_Told).owns = [] := rfl
theorem C_law15_Told_vars : (C_law15_Told).vars = [] := rfl
theorem C_law15_Told_ores : (C_law15_Told).ores = [] := rfl
theorem C_law15_Told_flags : (C_law15_Told).flags = [] := rfl
theorem C_law15_Told_pins : (C_law15_Told).pins = [] := rfl
theorem C_law15_Told_inls : (C_law15_Told).inls = [] := rfl
def T_law15_Told : List (Nat × LoopA) := []
set_option maxHeartbeats 20000000 in
set_option maxRecDepth 100000 in
noncomputable def pk_law15_Told : { F : Plan → Option (Plan) // CallC Go.Proofs.Try.prog 14 (con1 (eT cePlan) (fun x0 => (F x0).map (res1 (rAgg cePlan)).enc)) } :=
  ⟨_, cc1 E_law15_Told Go.Proofs.Try.func14 rfl rfl (T := T_law15_Told) (G := []) (r := (res1 (rAgg cePlan))) fun x0 => by
    unfold Wf
    simp (maxSteps := 10000000) (implicitDefEqProofs := false) [-evOps, -evOne, -evOp, -evIndexAddr, -evIndex, -evPick, -binV, -evLoad, -evStore, -loadC, -callV, -nilC, -storeC, -toDVs, -toDAs, -resRs, List.lookup, List.replicate, List.range_succ, ty_law15_Told, C_law15_Told_ty, C_law15_Told_eqs, C_law15_Told_call, C_law15_Told_calls, C_law15_Told_scal, C_law15_Told_owns, C_law15_Told_vars, C_law15_Told_ores, C_law15_Told_flags, C_law15_Told_pins, C_law15_Told_inls, T_law15_Told, Go.Proofs.Try.f14, iC, uC, bC, sC, Acc.c, Event.c, Plan.c, Result.c, Tx.c]
    try rfl⟩
noncomputable def F_law15_Told : Plan → Option (Plan) := pk_law15_Told.1
noncomputable def M_law15_Told : List DA → Option (List RV) := con1 (eT cePlan) (fun x0 => (F_law15_Told x0).map (res1 (rAgg cePlan)).enc)
theorem cc_law15_Told : CallC Go.Proofs.Try.prog 14 M_law15_Told := pk_law15_Told.2

end Go.Vm

/- What Go functions come to, as Lean functions: each with its contract. -/
set_option linter.unusedVariables false
set_option linter.unusedSimpArgs false
namespace Go.Vm
open Go Go.RowKit

/-! ### hopper/hopperref03.bytes -/
theorem en_r03_bytes : Enters Go.Proofs.Try.prog 67 := ⟨_, Go.Proofs.Try.func67, rfl, rfl⟩
def ty_r03_bytes : List (Nat × TI) := [(3, { size := 1, bytes := 8, agg := false, zero := [.sc (.int .i64 0)], kind := .int .i64 }), (5, { size := 1, bytes := 1, agg := false, zero := [.sc (.int .u8 0)], kind := .int .u8 }), (105, { size := 1, bytes := 24, agg := false, zero := [.sl []], kind := .slice 5 }), (9, { size := 1, bytes := 16, agg := false, zero := [.sc (.string "".toByteArray)], kind := .str })]
noncomputable def C_r03_bytes (M_ : List DA → Option (List RV)) : Cfg := mkC ty_r03_bytes [] [(67, M_)] [67] [] [] [] []
theorem E_r03_bytes (M_ : List DA → Option (List RV)) (h_ : CallC Go.Proofs.Try.prog 67 M_) : Env1 Go.Proofs.Try.prog (C_r03_bytes M_) := mkC_ok (by kernel_rfl) (⟨⟨en_r03_bytes, h_⟩, trivial⟩) (by kernel_rfl)
theorem C_r03_bytes_ty (M_ : List DA → Option (List RV)) : (C_r03_bytes M_).ty = ty_r03_bytes := rfl
theorem C_r03_bytes_eqs (M_ : List DA → Option (List RV)) : (C_r03_bytes M_).eqs = [] := rfl
theorem C_r03_bytes_call (M_ : List DA → Option (List RV)) : (C_r03_bytes M_).call = fun f => (([(67, M_)] : List (Nat × (List DA → Option (List RV)))).lookup f).getD fun _ => none := rfl
theorem C_r03_bytes_calls (M_ : List DA → Option (List RV)) : (C_r03_bytes M_).calls = [67] := rfl
theorem C_r03_bytes_scal (M_ : List DA → Option (List RV)) : (C_r03_bytes M_).scal = [67] := rfl
theorem C_r03_bytes_owns (M_ : List DA → Option (List RV)) : (C_r03_bytes M_).owns = [] := rfl
theorem C_r03_bytes_vars (M_ : List DA → Option (List RV)) : (C_r03_bytes M_).vars = [] := rfl
theorem C_r03_bytes_ores (M_ : List DA → Option (List RV)) : (C_r03_bytes M_).ores = [] := rfl
theorem C_r03_bytes_flags (M_ : List DA → Option (List RV)) : (C_r03_bytes M_).flags = [] := rfl
theorem C_r03_bytes_pins (M_ : List DA → Option (List RV)) : (C_r03_bytes M_).pins = [] := rfl
theorem C_r03_bytes_inls (M_ : List DA → Option (List RV)) : (C_r03_bytes M_).inls = [] := rfl
def T_r03_bytes : List (Nat × LoopA) := []
set_option maxHeartbeats 20000000 in
set_option maxRecDepth 100000 in
noncomputable def pk_r03_bytes : { G_ : (Int → Option (ByteArray)) → Int → Option (ByteArray) // ∀ F_ : Int → Option (ByteArray), CallC Go.Proofs.Try.prog 67 (con1 eInt (fun x0 => (F_ x0).map (res1 rS).enc)) → CallC Go.Proofs.Try.prog 67 (con1 eInt (fun x0 => (G_ F_ x0).map (res1 rS).enc)) } :=
  ⟨_, fun F_ h_ => cc1 (E_r03_bytes _ h_) Go.Proofs.Try.func67 rfl rfl (T := T_r03_bytes) (G := []) (r := (res1 rS)) fun x0 => by
    unfold Wf
    simp (maxSteps := 10000000) (implicitDefEqProofs := false) [-evOps, -evOne, -evOp, -evIndexAddr, -evIndex, -evPick, -binV, -evLoad, -evStore, -loadC, -callV, -nilC, -storeC, -toDVs, -toDAs, -resRs, List.lookup, List.replicate, List.range_succ, ty_r03_bytes, C_r03_bytes_ty, C_r03_bytes_eqs, C_r03_bytes_call, C_r03_bytes_calls, C_r03_bytes_scal, C_r03_bytes_owns, C_r03_bytes_vars, C_r03_bytes_ores, C_r03_bytes_flags, C_r03_bytes_pins, C_r03_bytes_inls, T_r03_bytes, Go.Proofs.Try.f67, iC, uC, bC, sC]
    try rfl⟩
noncomputable def G_r03_bytes : (Int → Option (ByteArray)) → Int → Option (ByteArray) := pk_r03_bytes.1
noncomputable def F_r03_bytes : Int → Option (ByteArray) := deepF G_r03_bytes 40
noncomputable def M_r03_bytes : List DA → Option (List RV) := con1 eInt (fun x0 => (F_r03_bytes x0).map (res1 rS).enc)
theorem cc_r03_bytes : CallC Go.Proofs.Try.prog 67 M_r03_bytes := rec1 pk_r03_bytes.2 fun a x h => ⟨40, h⟩
/-! ### hopper/hopperref03.Number -/
theorem en_r03_Number : Enters Go.Proofs.Try.prog 47 := ⟨_, Go.Proofs.Try.func47, rfl, rfl⟩
def ty_r03_Number : List (Nat × TI) := [(3, { size := 1, bytes := 8, agg := false, zero := [.sc (.int .i64 0)], kind := .int .i64 }), (9, { size := 1, bytes := 16, agg := false, zero := [.sc (.string "".toByteArray)], kind := .str }), (5, { size := 1, bytes := 1, agg := false, zero := [.sc (.int .u8 0)], kind := .int .u8 }), (105, { size := 1, bytes := 24, agg := false, zero := [.sl []], kind := .slice 5 })]
noncomputable def C_r03_Number : Cfg := mkC ty_r03_Number [] [(67, M_r03_bytes)] [67] [] [] [] []
theorem E_r03_Number : Env1 Go.Proofs.Try.prog C_r03_Number := mkC_ok (by kernel_rfl) (⟨⟨en_r03_bytes, cc_r03_bytes⟩, trivial⟩) (by kernel_rfl)
theorem C_r03_Number_ty : (C_r03_Number).ty = ty_r03_Number := rfl
theorem C_r03_Number_eqs : (C_r03_Number).eqs = [] := rfl
theorem C_r03_Number_call : (C_r03_Number).call = fun f => (([(67, M_r03_bytes)] : List (Nat × (List DA → Option (List RV)))).lookup f).getD fun _ => none := rfl
theorem C_r03_Number_calls : (C_r03_Number).calls = [67] := rfl
theorem C_r03_Number_scal : (C_r03_Number).scal = [67] := rfl
theorem C_r03_Number_owns : (C_r03_Number).owns = [] := rfl
theorem C_r03_Number_vars : (C_r03_Number).vars = [] := rfl
theorem C_r03_Number_ores : (C_r03_Number).ores = [] := rfl
theorem C_r03_Number_flags : (C_r03_Number).flags = [] := rfl
theorem C_r03_Number_pins : (C_r03_Number).pins = [] := rfl
theorem C_r03_Number_inls : (C_r03_Number).inls = [] := rfl
def T_r03_Number : List (Nat × LoopA) := []
set_option maxHeartbeats 20000000 in
set_option maxRecDepth 100000 in
noncomputable def pk_r03_Number : { F : Int → Option (ByteArray) // CallC Go.Proofs.Try.prog 47 (con1 eInt (fun x0 => (F x0).map (res1 rS).enc)) } :=
  ⟨_, cc1 E_r03_Number Go.Proofs.Try.func47 rfl rfl (T := T_r03_Number) (G := []) (r := (res1 rS)) fun x0 => by
    unfold Wf
    simp (maxSteps := 10000000) (implicitDefEqProofs := false) [-evOps, -evOne, -evOp, -evIndexAddr, -evIndex, -evPick, -binV, -evLoad, -evStore, -loadC, -callV, -nilC, -storeC, -toDVs, -toDAs, -resRs, List.lookup, List.replicate, List.range_succ, ty_r03_Number, C_r03_Number_ty, C_r03_Number_eqs, C_r03_Number_call, C_r03_Number_calls, C_r03_Number_scal, C_r03_Number_owns, C_r03_Number_vars, C_r03_Number_ores, C_r03_Number_flags, C_r03_Number_pins, C_r03_Number_inls, T_r03_Number, Go.Proofs.Try.f47, M_r03_bytes, iC, uC, bC, sC]
    try rfl⟩
noncomputable def F_r03_Number : Int → Option (ByteArray) := pk_r03_Number.1
noncomputable def M_r03_Number : List DA → Option (List RV) := con1 eInt (fun x0 => (F_r03_Number x0).map (res1 rS).enc)
theorem cc_r03_Number : CallC Go.Proofs.Try.prog 47 M_r03_Number := pk_r03_Number.2
/-! ### hopper/hopperref03.TakeNumber -/
theorem en_r03_TakeNumber : Enters Go.Proofs.Try.prog 59 := ⟨_, Go.Proofs.Try.func59, rfl, rfl⟩
def ty_r03_TakeNumber : List (Nat × TI) := [(9, { size := 1, bytes := 16, agg := false, zero := [.sc (.string "".toByteArray)], kind := .str }), (3, { size := 1, bytes := 8, agg := false, zero := [.sc (.int .i64 0)], kind := .int .i64 }), (5, { size := 1, bytes := 1, agg := false, zero := [.sc (.int .u8 0)], kind := .int .u8 })]
noncomputable def C_r03_TakeNumber : Cfg := mkC ty_r03_TakeNumber [] [(47, M_r03_Number)] [47] [] [0,1,7,8,9] [] [(11, [true, false, true, true, true, true, true, true, true, true, true, true]), (13, [true, true, true, true, true, true, true, true])]
theorem E_r03_TakeNumber : Env1 Go.Proofs.Try.prog C_r03_TakeNumber := mkC_ok (by kernel_rfl) (⟨⟨en_r03_Number, cc_r03_Number⟩, trivial⟩) (by kernel_rfl)
theorem C_r03_TakeNumber_ty : (C_r03_TakeNumber).ty = ty_r03_TakeNumber := rfl
theorem C_r03_TakeNumber_eqs : (C_r03_TakeNumber).eqs = [] := rfl
theorem C_r03_TakeNumber_call : (C_r03_TakeNumber).call = fun f => (([(47, M_r03_Number)] : List (Nat × (List DA → Option (List RV)))).lookup f).getD fun _ => none := rfl
theorem C_r03_TakeNumber_calls : (C_r03_TakeNumber).calls = [47] := rfl
theorem C_r03_TakeNumber_scal : (C_r03_TakeNumber).scal = [47] := rfl
theorem C_r03_TakeNumber_owns : (C_r03_TakeNumber).owns = [] := rfl
theorem C_r03_TakeNumber_vars : (C_r03_TakeNumber).vars = [0,1,7,8,9] := rfl
theorem C_r03_TakeNumber_ores : (C_r03_TakeNumber).ores = [] := rfl
theorem C_r03_TakeNumber_flags : (C_r03_TakeNumber).flags = [(11, [true, false, true, true, true, true, true, true, true, true, true, true]), (13, [true, true, true, true, true, true, true, true])] := rfl
theorem C_r03_TakeNumber_pins : (C_r03_TakeNumber).pins = [] := rfl
theorem C_r03_TakeNumber_inls : (C_r03_TakeNumber).inls = [] := rfl
structure L_r03_TakeNumber_0 where
  s_ : ByteArray
  most : Int
  many : Int
  n : Int
  i : Int
def an_r03_TakeNumber_0 : Ann := mkAnn (σ := L_r03_TakeNumber_0) (lCons (vOne cS) <| lCons (vOne cI) <| lSkip vUnk <| lSkip vUnk <| lSkip vUnk <| lSkip vUnk <| lSkip vUnk <| lCons (vOne cI) <| lCons (vOne cI) <| lCons (vOne cI) <| lSkip vUnk <| lSkip vUnk <| lSkip vUnk <| lSkip vUnk <| lSkip vUnk <| lSkip vUnk <| lSkip vUnk <| lSkip vUnk <| lSkip vUnk <| lSkip vUnk <| lSkip vUnk <| lSkip vUnk <| lSkip vUnk <| lSkip vUnk <| lSkip vUnk <| lSkip vUnk <| lSkip vUnk <| lSkip vUnk <| lSkip vUnk <| lSkip vUnk <| lSkip vUnk <| lSkip vUnk <| lSkip vUnk <| lSkip vUnk <| lSkip vUnk <| lSkip vUnk <| lSkip vUnk <| lSkip vUnk <| lSkip vUnk <| lSkip vUnk <| lSkip vUnk <| lSkip vUnk <| lSkip vUnk <| lSkip vUnk <| lSkip vUnk <| lSkip vUnk <| lSkip vUnk <| lSkip vUnk <| lSkip vUnk <| lSkip vUnk <| lSkip vUnk <| lSkip vUnk <| lSkip vUnk <| lSkip vUnk <| lSkip vUnk <| lSkip vUnk <| lSkip vUnk <| lSkip vUnk <| lSkip vUnk <| lSkip vUnk <| lSkip vUnk <| lSkip vUnk <| lSkip vUnk <| lSkip vUnk <| lSkip vUnk <| lSkip vUnk <| lSkip vUnk <| lSkip vUnk <| lSkip vUnk <| lSkip vUnk <| lSkip vUnk <|  lNil) ( lNil)
  (fun a b => L_r03_TakeNumber_0.mk (a.1) (a.2.1) (a.2.2.1) (a.2.2.2.1) (a.2.2.2.2.1)) (fun s => (s.s_, s.most, s.many, s.n, s.i, ())) (fun s => (())) (fun a b => true) (fun _ _ _ => ⟨rfl, rfl⟩)
theorem an_r03_TakeNumber_0_st (s : an_r03_TakeNumber_0.σ) : an_r03_TakeNumber_0.st s = ([.v (.one (.d (.sc (.string (L_r03_TakeNumber_0.s_ s))))), .v (.one (.d (.sc (.int .i64 (L_r03_TakeNumber_0.most s))))), .unk, .unk, .unk, .unk, .unk, .v (.one (.d (.sc (.int .i64 (L_r03_TakeNumber_0.many s))))), .v (.one (.d (.sc (.int .i64 (L_r03_TakeNumber_0.n s))))), .v (.one (.d (.sc (.int .i64 (L_r03_TakeNumber_0.i s))))), .unk, .unk, .unk, .unk, .unk, .unk, .unk, .unk, .unk, .unk, .unk, .unk, .unk, .unk, .unk, .unk, .unk, .unk, .unk, .unk, .unk, .unk, .unk, .unk, .unk, .unk, .unk, .unk, .unk, .unk, .unk, .unk, .unk, .unk, .unk, .unk, .unk, .unk, .unk, .unk, .unk, .unk, .unk, .unk, .unk, .unk, .unk, .unk, .unk, .unk, .unk, .unk, .unk, .unk, .unk, .unk, .unk, .unk, .unk, .unk, .unk], []) := rfl
set_option maxHeartbeats 4000000 in
set_option maxRecDepth 100000 in
theorem an_r03_TakeNumber_0_un {β : Type} (s_ : ByteArray) (most : Int) (many : Int) (n : Int) (i : Int) (f_ : an_r03_TakeNumber_0.σ → Option β) : (an_r03_TakeNumber_0.un [.v (.one (.d (.sc (.string s_)))), .v (.one (.d (.sc (.int .i64 most)))), .unk, .unk, .unk, .unk, .unk, .v (.one (.d (.sc (.int .i64 many)))), .v (.one (.d (.sc (.int .i64 n)))), .v (.one (.d (.sc (.int .i64 i)))), .unk, .unk, .unk, .unk, .unk, .unk, .unk, .unk, .unk, .unk, .unk, .unk, .unk, .unk, .unk, .unk, .unk, .unk, .unk, .unk, .unk, .unk, .unk, .unk, .unk, .unk, .unk, .unk, .unk, .unk, .unk, .unk, .unk, .unk, .unk, .unk, .unk, .unk, .unk, .unk, .unk, .unk, .unk, .unk, .unk, .unk, .unk, .unk, .unk, .unk, .unk, .unk, .unk, .unk, .unk, .unk, .unk, .unk, .unk, .unk, .unk] []).bind f_ = f_ (L_r03_TakeNumber_0.mk s_ most many n i) :=
  (mkAnn_un (σ := L_r03_TakeNumber_0) _ _ _ _ _ _ _ _ _ f_).trans (by simp [Option.bind_assoc])
def T_r03_TakeNumber : List (Nat × LoopA) := [(0, .ty an_r03_TakeNumber_0)]
set_option maxHeartbeats 20000000 in
set_option maxRecDepth 100000 in
noncomputable def pk_r03_TakeNumber : { F : ByteArray → Int → Option (Int × ByteArray × Bool) // CallC Go.Proofs.Try.prog 59 (con2 eStr eInt (fun x0 x1 => (F x0 x1).map (res3 rI rS rB).enc)) } :=
  ⟨_, cc2 E_r03_TakeNumber Go.Proofs.Try.func59 rfl rfl (T := T_r03_TakeNumber) (G := []) (r := (res3 rI rS rB)) fun x0 x1 => by
    unfold Wf
    simp (maxSteps := 10000000) (implicitDefEqProofs := false) [-evOps, -evOne, -evOp, -evIndexAddr, -evIndex, -evPick, -binV, -evLoad, -evStore, -loadC, -callV, -nilC, -storeC, -toDVs, -toDAs, -resRs, List.lookup, List.replicate, List.range_succ, ty_r03_TakeNumber, C_r03_TakeNumber_ty, C_r03_TakeNumber_eqs, C_r03_TakeNumber_call, C_r03_TakeNumber_calls, C_r03_TakeNumber_scal, C_r03_TakeNumber_owns, C_r03_TakeNumber_vars, C_r03_TakeNumber_ores, C_r03_TakeNumber_flags, C_r03_TakeNumber_pins, C_r03_TakeNumber_inls, T_r03_TakeNumber, Go.Proofs.Try.f59, M_r03_Number, an_r03_TakeNumber_0_st, an_r03_TakeNumber_0_un, iC, uC, bC, sC]
    try rfl⟩
noncomputable def F_r03_TakeNumber : ByteArray → Int → Option (Int × ByteArray × Bool) := pk_r03_TakeNumber.1
noncomputable def M_r03_TakeNumber : List DA → Option (List RV) := con2 eStr eInt (fun x0 x1 => (F_r03_TakeNumber x0 x1).map (res3 rI rS rB).enc)
theorem cc_r03_TakeNumber : CallC Go.Proofs.Try.prog 59 M_r03_TakeNumber := pk_r03_TakeNumber.2
/-! ### hopper/hopperref04.Encode -/
theorem en_r04_Encode : Enters Go.Proofs.Try.prog 24 := ⟨_, Go.Proofs.Try.func24, rfl, rfl⟩
def ty_r04_Encode : List (Nat × TI) := [(34, { size := 6, bytes := 56, agg := true, zero := [.sc (.int .i64 0), .sc (.int .i64 0), .sc (.int .i64 0), .sc (.int .i64 0), .sc (.int .i64 0), .sc (.string "".toByteArray)], kind := .struct [(0, 1, false), (1, 1, false), (2, 1, false), (3, 1, false), (4, 1, false), (5, 1, false)] }), (3, { size := 1, bytes := 8, agg := false, zero := [.sc (.int .i64 0)], kind := .int .i64 }), (85, { size := 1, bytes := 24, agg := false, zero := [.sl []], kind := .slice 3 }), (9, { size := 1, bytes := 16, agg := false, zero := [.sc (.string "".toByteArray)], kind := .str })]
noncomputable def C_r04_Encode : Cfg := mkC ty_r04_Encode [] [(45, M_r04_Check), (47, M_r03_Number), (48, M_r03_Text)] [45, 47, 48] [] [1,4,5,6] [] []
theorem E_r04_Encode : Env1 Go.Proofs.Try.prog C_r04_Encode := mkC_ok (by kernel_rfl) (⟨⟨en_r04_Check, cc_r04_Check⟩, ⟨⟨en_r03_Number, cc_r03_Number⟩, ⟨⟨en_r03_Text, cc_r03_Text⟩, trivial⟩⟩⟩) (by kernel_rfl)
theorem C_r04_Encode_ty : (C_r04_Encode).ty = ty_r04_Encode := rfl
theorem C_r04_Encode_eqs : (C_r04_Encode).eqs = [] := rfl
theorem C_r04_Encode_call : (C_r04_Encode).call = fun f => (([(45, M_r04_Check), (47, M_r03_Number), (48, M_r03_Text)] : List (Nat × (List DA → Option (List RV)))).lookup f).getD fun _ => none := rfl
theorem C_r04_Encode_calls : (C_r04_Encode).calls = [45, 47, 48] := rfl
theorem C_r04_Encode_scal : (C_r04_Encode).scal = [45, 47, 48] := rfl
theorem C_r04_Encode_owns : (C_r04_Encode).owns = [] := rfl
theorem C_r04_Encode_vars : (C_r04_Encode).vars = [1,4,5,6] := rfl
theorem C_r04_Encode_ores : (C_r04_Encode).ores = [] := rfl
theorem C_r04_Encode_flags : (C_r04_Encode).flags = [] := rfl
theorem C_r04_Encode_pins : (C_r04_Encode).pins = [] := rfl
theorem C_r04_Encode_inls : (C_r04_Encode).inls = [] := rfl
def T_r04_Encode : List (Nat × LoopA) := [(0, .un)]
set_option maxHeartbeats 20000000 in
set_option maxRecDepth 100000 in
noncomputable def pk_r04_Encode : { F : Tx → Option (ByteArray × Bool) // CallC Go.Proofs.Try.prog 24 (con1 (eT ceTx) (fun x0 => (F x0).map (res2 rS rB).enc)) } :=
  ⟨_, cc1 E_r04_Encode Go.Proofs.Try.func24 rfl rfl (T := T_r04_Encode) (G := []) (r := (res2 rS rB)) fun x0 => by
    unfold Wf
    simp (maxSteps := 10000000) (implicitDefEqProofs := false) [-evOps, -evOne, -evOp, -evIndexAddr, -evIndex, -evPick, -binV, -evLoad, -evStore, -loadC, -callV, -nilC, -storeC, -toDVs, -toDAs, -resRs, List.lookup, List.replicate, List.range_succ, ty_r04_Encode, C_r04_Encode_ty, C_r04_Encode_eqs, C_r04_Encode_call, C_r04_Encode_calls, C_r04_Encode_scal, C_r04_Encode_owns, C_r04_Encode_vars, C_r04_Encode_ores, C_r04_Encode_flags, C_r04_Encode_pins, C_r04_Encode_inls, T_r04_Encode, Go.Proofs.Try.f24, M_r04_Check, M_r03_Number, M_r03_Text, iC, uC, bC, sC, Tx.c, wrap64]
    try rfl⟩
noncomputable def F_r04_Encode : Tx → Option (ByteArray × Bool) := pk_r04_Encode.1
noncomputable def M_r04_Encode : List DA → Option (List RV) := con1 (eT ceTx) (fun x0 => (F_r04_Encode x0).map (res2 rS rB).enc)
theorem cc_r04_Encode : CallC Go.Proofs.Try.prog 24 M_r04_Encode := pk_r04_Encode.2
/-! ### hopper/hopperref04.Slots -/
theorem en_r04_Slots : Enters Go.Proofs.Try.prog 46 := ⟨_, Go.Proofs.Try.func46, rfl, rfl⟩
def ty_r04_Slots : List (Nat × TI) := [(34, { size := 6, bytes := 56, agg := true, zero := [.sc (.int .i64 0), .sc (.int .i64 0), .sc (.int .i64 0), .sc (.int .i64 0), .sc (.int .i64 0), .sc (.string "".toByteArray)], kind := .struct [(0, 1, false), (1, 1, false), (2, 1, false), (3, 1, false), (4, 1, false), (5, 1, false)] }), (9, { size := 1, bytes := 16, agg := false, zero := [.sc (.string "".toByteArray)], kind := .str }), (3, { size := 1, bytes := 8, agg := false, zero := [.sc (.int .i64 0)], kind := .int .i64 })]
noncomputable def C_r04_Slots : Cfg := mkC ty_r04_Slots [] [(24, M_r04_Encode), (66, M_r01_Slots)] [24, 66] [] [] [] []
theorem E_r04_Slots : Env1 Go.Proofs.Try.prog C_r04_Slots := mkC_ok (by kernel_rfl) (⟨⟨en_r04_Encode, cc_r04_Encode⟩, ⟨⟨en_r01_Slots, cc_r01_Slots⟩, trivial⟩⟩) (by kernel_rfl)
theorem C_r04_Slots_ty : (C_r04_Slots).ty = ty_r04_Slots := rfl
theorem C_r04_Slots_eqs : (C_r04_Slots).eqs = [] := rfl
theorem C_r04_Slots_call : (C_r04_Slots).call = fun f => (([(24, M_r04_Encode), (66, M_r01_Slots)] : List (Nat × (List DA → Option (List RV)))).lookup f).getD fun _ => none := rfl
theorem C_r04_Slots_calls : (C_r04_Slots).calls = [24, 66] := rfl
theorem C_r04_Slots_scal : (C_r04_Slots).scal = [24, 66] := rfl
theorem C_r04_Slots_owns : (C_r04_Slots).owns = [] := rfl
theorem C_r04_Slots_vars : (C_r04_Slots).vars = [] := rfl
theorem C_r04_Slots_ores : (C_r04_Slots).ores = [] := rfl
theorem C_r04_Slots_flags : (C_r04_Slots).flags = [] := rfl
theorem C_r04_Slots_pins : (C_r04_Slots).pins = [] := rfl
theorem C_r04_Slots_inls : (C_r04_Slots).inls = [] := rfl
def T_r04_Slots : List (Nat × LoopA) := []
set_option maxHeartbeats 20000000 in
set_option maxRecDepth 100000 in
noncomputable def pk_r04_Slots : { F : Tx → Option (Int) // CallC Go.Proofs.Try.prog 46 (con1 (eT ceTx) (fun x0 => (F x0).map (res1 rI).enc)) } :=
  ⟨_, cc1 E_r04_Slots Go.Proofs.Try.func46 rfl rfl (T := T_r04_Slots) (G := []) (r := (res1 rI)) fun x0 => by
    unfold Wf
    simp (maxSteps := 10000000) (implicitDefEqProofs := false) [-evOps, -evOne, -evOp, -evIndexAddr, -evIndex, -evPick, -binV, -evLoad, -evStore, -loadC, -callV, -nilC, -storeC, -toDVs, -toDAs, -resRs, List.lookup, List.replicate, List.range_succ, ty_r04_Slots, C_r04_Slots_ty, C_r04_Slots_eqs, C_r04_Slots_call, C_r04_Slots_calls, C_r04_Slots_scal, C_r04_Slots_owns, C_r04_Slots_vars, C_r04_Slots_ores, C_r04_Slots_flags, C_r04_Slots_pins, C_r04_Slots_inls, T_r04_Slots, Go.Proofs.Try.f46, M_r04_Encode, M_r01_Slots, iC, uC, bC, sC, Tx.c]
    try rfl⟩
noncomputable def F_r04_Slots : Tx → Option (Int) := pk_r04_Slots.1
noncomputable def M_r04_Slots : List DA → Option (List RV) := con1 (eT ceTx) (fun x0 => (F_r04_Slots x0).map (res1 rI).enc)
theorem cc_r04_Slots : CallC Go.Proofs.Try.prog 46 M_r04_Slots := pk_r04_Slots.2
/-! ### hopper/hopperref05.Place -/
theorem en_r05_Place : Enters Go.Proofs.Try.prog 52 := ⟨_, Go.Proofs.Try.func52, rfl, rfl⟩
def ty_r05_Place : List (Nat × TI) := [(26, { size := 3, bytes := 40, agg := true, zero := [.sc (.int .i64 0), .sc (.int .i64 0), .sl []], kind := .struct [(0, 1, false), (1, 1, false), (2, 1, false)] }), (34, { size := 6, bytes := 56, agg := true, zero := [.sc (.int .i64 0), .sc (.int .i64 0), .sc (.int .i64 0), .sc (.int .i64 0), .sc (.int .i64 0), .sc (.string "".toByteArray)], kind := .struct [(0, 1, false), (1, 1, false), (2, 1, false), (3, 1, false), (4, 1, false), (5, 1, false)] }), (3, { size := 1, bytes := 8, agg := false, zero := [.sc (.int .i64 0)], kind := .int .i64 }), (24, { size := 1, bytes := 24, agg := false, zero := [.sl []], kind := .slice 34 })]
noncomputable def C_r05_Place : Cfg := mkC ty_r05_Place [] [(20, M_r05_Check), (45, M_r04_Check), (25, M_r05_Find), (73, M_r01_Raise), (46, M_r04_Slots)] [20, 45, 25, 73, 46] [] [] [] [(10, [true, true, true, false, true, true, true])]
theorem E_r05_Place : Env1 Go.Proofs.Try.prog C_r05_Place := mkC_ok (by kernel_rfl) (⟨⟨en_r05_Check, cc_r05_Check⟩, ⟨⟨en_r04_Check, cc_r04_Check⟩, ⟨⟨en_r05_Find, cc_r05_Find⟩, ⟨⟨en_r01_Raise, cc_r01_Raise⟩, ⟨⟨en_r04_Slots, cc_r04_Slots⟩, trivial⟩⟩⟩⟩⟩) (by kernel_rfl)
theorem C_r05_Place_ty : (C_r05_Place).ty = ty_r05_Place := rfl
theorem C_r05_Place_eqs : (C_r05_Place).eqs = [] := rfl
theorem C_r05_Place_call : (C_r05_Place).call = fun f => (([(20, M_r05_Check), (45, M_r04_Check), (25, M_r05_Find), (73, M_r01_Raise), (46, M_r04_Slots)] : List (Nat × (List DA → Option (List RV)))).lookup f).getD fun _ => none := rfl
theorem C_r05_Place_calls : (C_r05_Place).calls = [20, 45, 25, 73, 46] := rfl
theorem C_r05_Place_scal : (C_r05_Place).scal = [20, 45, 25, 73, 46] := rfl
theorem C_r05_Place_owns : (C_r05_Place).owns = [] := rfl
theorem C_r05_Place_vars : (C_r05_Place).vars = [] := rfl
theorem C_r05_Place_ores : (C_r05_Place).ores = [] := rfl
theorem C_r05_Place_flags : (C_r05_Place).flags = [(10, [true, true, true, false, true, true, true])] := rfl
theorem C_r05_Place_pins : (C_r05_Place).pins = [] := rfl
theorem C_r05_Place_inls : (C_r05_Place).inls = [] := rfl
def T_r05_Place : List (Nat × LoopA) := []
set_option maxHeartbeats 20000000 in
set_option maxRecDepth 100000 in
noncomputable def pk_r05_Place : { F : Acc → Tx → Int → Int → Option (Int × Int) // CallC Go.Proofs.Try.prog 52 (con4 (eT ceAcc) (eT ceTx) eInt eInt (fun x0 x1 x2 x3 => (F x0 x1 x2 x3).map (res2 rI rI).enc)) } :=
  ⟨_, cc4 E_r05_Place Go.Proofs.Try.func52 rfl rfl (T := T_r05_Place) (G := []) (r := (res2 rI rI)) fun x0 x1 x2 x3 => by
    unfold Wf
    simp (maxSteps := 10000000) (implicitDefEqProofs := false) [-evOps, -evOne, -evOp, -evIndexAddr, -evIndex, -evPick, -binV, -evLoad, -evStore, -loadC, -callV, -nilC, -storeC, -toDVs, -toDAs, -resRs, List.lookup, List.replicate, List.range_succ, ty_r05_Place, C_r05_Place_ty, C_r05_Place_eqs, C_r05_Place_call, C_r05_Place_calls, C_r05_Place_scal, C_r05_Place_owns, C_r05_Place_vars, C_r05_Place_ores, C_r05_Place_flags, C_r05_Place_pins, C_r05_Place_inls, T_r05_Place, Go.Proofs.Try.f52, M_r05_Check, M_r04_Check, M_r05_Find, M_r01_Raise, M_r04_Slots, iC, uC, bC, sC, Acc.c, Tx.c]
    try rfl⟩
noncomputable def F_r05_Place : Acc → Tx → Int → Int → Option (Int × Int) := pk_r05_Place.1
noncomputable def M_r05_Place : List DA → Option (List RV) := con4 (eT ceAcc) (eT ceTx) eInt eInt (fun x0 x1 x2 x3 => (F_r05_Place x0 x1 x2 x3).map (res2 rI rI).enc)
theorem cc_r05_Place : CallC Go.Proofs.Try.prog 52 M_r05_Place := pk_r05_Place.2
/-! ### hopper/hopperref05.Slots -/
theorem en_r05_Slots : Enters Go.Proofs.Try.prog 22 := ⟨_, Go.Proofs.Try.func22, rfl, rfl⟩
def ty_r05_Slots : List (Nat × TI) := [(26, { size := 3, bytes := 40, agg := true, zero := [.sc (.int .i64 0), .sc (.int .i64 0), .sl []], kind := .struct [(0, 1, false), (1, 1, false), (2, 1, false)] }), (24, { size := 1, bytes := 24, agg := false, zero := [.sl []], kind := .slice 34 }), (3, { size := 1, bytes := 8, agg := false, zero := [.sc (.int .i64 0)], kind := .int .i64 }), (34, { size := 6, bytes := 56, agg := true, zero := [.sc (.int .i64 0), .sc (.int .i64 0), .sc (.int .i64 0), .sc (.int .i64 0), .sc (.int .i64 0), .sc (.string "".toByteArray)], kind := .struct [(0, 1, false), (1, 1, false), (2, 1, false), (3, 1, false), (4, 1, false), (5, 1, false)] })]
noncomputable def C_r05_Slots : Cfg := mkC ty_r05_Slots [] [(46, M_r04_Slots)] [46] [] [1,3,4] [] []
theorem E_r05_Slots : Env1 Go.Proofs.Try.prog C_r05_Slots := mkC_ok (by kernel_rfl) (⟨⟨en_r04_Slots, cc_r04_Slots⟩, trivial⟩) (by kernel_rfl)
theorem C_r05_Slots_ty : (C_r05_Slots).ty = ty_r05_Slots := rfl
theorem C_r05_Slots_eqs : (C_r05_Slots).eqs = [] := rfl
theorem C_r05_Slots_call : (C_r05_Slots).call = fun f => (([(46, M_r04_Slots)] : List (Nat × (List DA → Option (List RV)))).lookup f).getD fun _ => none := rfl
theorem C_r05_Slots_calls : (C_r05_Slots).calls = [46] := rfl
theorem C_r05_Slots_scal : (C_r05_Slots).scal = [46] := rfl
theorem C_r05_Slots_owns : (C_r05_Slots).owns = [] := rfl
theorem C_r05_Slots_vars : (C_r05_Slots).vars = [1,3,4] := rfl
theorem C_r05_Slots_ores : (C_r05_Slots).ores = [] := rfl
theorem C_r05_Slots_flags : (C_r05_Slots).flags = [] := rfl
theorem C_r05_Slots_pins : (C_r05_Slots).pins = [] := rfl
theorem C_r05_Slots_inls : (C_r05_Slots).inls = [] := rfl
structure L_r05_Slots_0 where
  n : Int
  i : Int
  a_ : Acc
def an_r05_Slots_0 : Ann := mkAnn (σ := L_r05_Slots_0) (lSkip vUnk <| lSkip (vOne (cPtr 0 0 0)) <| lSkip vUnk <| lCons (vOne cI) <| lCons (vOne cI) <| lSkip vUnk <| lSkip vUnk <| lSkip vUnk <| lSkip vUnk <| lSkip vUnk <| lSkip vUnk <| lSkip vUnk <| lSkip vUnk <| lSkip vUnk <| lSkip vUnk <| lSkip vUnk <| lSkip vUnk <| lSkip vUnk <| lSkip vUnk <| lSkip vUnk <| lSkip vUnk <|  lNil) (lCons (oBox 26 (cStr ceAcc)) <|  lNil)
  (fun a b => L_r05_Slots_0.mk (a.1) (a.2.1) (b.1)) (fun s => (s.n, s.i, ())) (fun s => (s.a_, ())) (fun a b => true) (fun _ _ _ => ⟨rfl, rfl⟩)
theorem an_r05_Slots_0_st (s : an_r05_Slots_0.σ) : an_r05_Slots_0.st s = ([.unk, .v (.one (.ptr 0 0 0)), .unk, .v (.one (.d (.sc (.int .i64 (L_r05_Slots_0.n s))))), .v (.one (.d (.sc (.int .i64 (L_r05_Slots_0.i s))))), .unk, .unk, .unk, .unk, .unk, .unk, .unk, .unk, .unk, .unk, .unk, .unk, .unk, .unk, .unk, .unk], [.box 26 (ddv (Acc.c (L_r05_Slots_0.a_ s)))]) := rfl
set_option maxHeartbeats 4000000 in
set_option maxRecDepth 100000 in
theorem an_r05_Slots_0_un {β : Type} (n : Int) (i : Int) (p_a_ : List CV) (f_ : an_r05_Slots_0.σ → Option β) : (an_r05_Slots_0.un [.unk, .v (.one (.ptr 0 0 0)), .unk, .v (.one (.d (.sc (.int .i64 n)))), .v (.one (.d (.sc (.int .i64 i)))), .unk, .unk, .unk, .unk, .unk, .unk, .unk, .unk, .unk, .unk, .unk, .unk, .unk, .unk, .unk, .unk] [.box 26 p_a_]).bind f_ = ((allD p_a_).bind dAcc).bind fun a_ => f_ (L_r05_Slots_0.mk n i a_) :=
  (mkAnn_un (σ := L_r05_Slots_0) _ _ _ _ _ _ _ _ _ f_).trans (by simp [Option.bind_assoc])
def T_r05_Slots : List (Nat × LoopA) := [(0, .ty an_r05_Slots_0)]
set_option maxHeartbeats 20000000 in
set_option maxRecDepth 100000 in
noncomputable def pk_r05_Slots : { F : Acc → Option (Int) // CallC Go.Proofs.Try.prog 22 (con1 (eT ceAcc) (fun x0 => (F x0).map (res1 rI).enc)) } :=
  ⟨_, cc1 E_r05_Slots Go.Proofs.Try.func22 rfl rfl (T := T_r05_Slots) (G := []) (r := (res1 rI)) fun x0 => by
    unfold Wf
    simp (maxSteps := 10000000) (implicitDefEqProofs := false) [-evOps, -evOne, -evOp, -evIndexAddr, -evIndex, -evPick, -binV, -evLoad, -evStore, -loadC, -callV, -nilC, -storeC, -toDVs, -toDAs, -resRs, List.lookup, List.replicate, List.range_succ, ty_r05_Slots, C_r05_Slots_ty, C_r05_Slots_eqs, C_r05_Slots_call, C_r05_Slots_calls, C_r05_Slots_scal, C_r05_Slots_owns, C_r05_Slots_vars, C_r05_Slots_ores, C_r05_Slots_flags, C_r05_Slots_pins, C_r05_Slots_inls, T_r05_Slots, Go.Proofs.Try.f22, M_r04_Slots, an_r05_Slots_0_st, an_r05_Slots_0_un, iC, uC, bC, sC, Acc.c, Tx.c]
    try rfl⟩
noncomputable def F_r05_Slots : Acc → Option (Int) := pk_r05_Slots.1
noncomputable def M_r05_Slots : List DA → Option (List RV) := con1 (eT ceAcc) (fun x0 => (F_r05_Slots x0).map (res1 rI).enc)
theorem cc_r05_Slots : CallC Go.Proofs.Try.prog 22 M_r05_Slots := pk_r05_Slots.2
/-! ### hopper/hopperref04.Decode -/
theorem en_r04_Decode : Enters Go.Proofs.Try.prog 35 := ⟨_, Go.Proofs.Try.func35, rfl, rfl⟩
def ty_r04_Decode : List (Nat × TI) := [(34, { size := 6, bytes := 56, agg := true, zero := [.sc (.int .i64 0), .sc (.int .i64 0), .sc (.int .i64 0), .sc (.int .i64 0), .sc (.int .i64 0), .sc (.string "".toByteArray)], kind := .struct [(0, 1, false), (1, 1, false), (2, 1, false), (3, 1, false), (4, 1, false), (5, 1, false)] }), (100, { size := 5, bytes := 40, agg := true, zero := [.sc (.int .i64 0), .sc (.int .i64 0), .sc (.int .i64 0), .sc (.int .i64 0), .sc (.int .i64 0)], kind := .array 5 3 }), (9, { size := 1, bytes := 16, agg := false, zero := [.sc (.string "".toByteArray)], kind := .str }), (3, { size := 1, bytes := 8, agg := false, zero := [.sc (.int .i64 0)], kind := .int .i64 })]
noncomputable def C_r04_Decode : Cfg := mkC ty_r04_Decode [] [(59, M_r03_TakeNumber), (60, M_r03_TakeText), (24, M_r04_Encode)] [59, 60, 24] [] [0,2,4,5,6] [] []
theorem E_r04_Decode : Env1 Go.Proofs.Try.prog C_r04_Decode := mkC_ok (by kernel_rfl) (⟨⟨en_r03_TakeNumber, cc_r03_TakeNumber⟩, ⟨⟨en_r03_TakeText, cc_r03_TakeText⟩, ⟨⟨en_r04_Encode, cc_r04_Encode⟩, trivial⟩⟩⟩) (by kernel_rfl)
theorem C_r04_Decode_ty : (C_r04_Decode).ty = ty_r04_Decode := rfl
theorem C_r04_Decode_eqs : (C_r04_Decode).eqs = [] := rfl
theorem C_r04_Decode_call : (C_r04_Decode).call = fun f => (([(59, M_r03_TakeNumber), (60, M_r03_TakeText), (24, M_r04_Encode)] : List (Nat × (List DA → Option (List RV)))).lookup f).getD fun _ => none := rfl
theorem C_r04_Decode_calls : (C_r04_Decode).calls = [59, 60, 24] := rfl
theorem C_r04_Decode_scal : (C_r04_Decode).scal = [59, 60, 24] := rfl
theorem C_r04_Decode_owns : (C_r04_Decode).owns = [] := rfl
theorem C_r04_Decode_vars : (C_r04_Decode).vars = [0,2,4,5,6] := rfl
theorem C_r04_Decode_ores : (C_r04_Decode).ores = [] := rfl
theorem C_r04_Decode_flags : (C_r04_Decode).flags = [] := rfl
theorem C_r04_Decode_pins : (C_r04_Decode).pins = [] := rfl
theorem C_r04_Decode_inls : (C_r04_Decode).inls = [] := rfl
def T_r04_Decode : List (Nat × LoopA) := [(0, .un)]
set_option maxHeartbeats 20000000 in
set_option maxRecDepth 100000 in
noncomputable def pk_r04_Decode : { F : ByteArray → Option (Tx × Bool) // CallC Go.Proofs.Try.prog 35 (con1 eStr (fun x0 => (F x0).map (res2 (rAgg ceTx) rB).enc)) } :=
  ⟨_, cc1 E_r04_Decode Go.Proofs.Try.func35 rfl rfl (T := T_r04_Decode) (G := []) (r := (res2 (rAgg ceTx) rB)) fun x0 => by
    unfold Wf
    simp (maxSteps := 10000000) (implicitDefEqProofs := false) [-evOps, -evOne, -evOp, -evIndexAddr, -evIndex, -evPick, -binV, -evLoad, -evStore, -loadC, -callV, -nilC, -storeC, -toDVs, -toDAs, -resRs, List.lookup, List.replicate, List.range_succ, ty_r04_Decode, C_r04_Decode_ty, C_r04_Decode_eqs, C_r04_Decode_call, C_r04_Decode_calls, C_r04_Decode_scal, C_r04_Decode_owns, C_r04_Decode_vars, C_r04_Decode_ores, C_r04_Decode_flags, C_r04_Decode_pins, C_r04_Decode_inls, T_r04_Decode, Go.Proofs.Try.f35, M_r03_TakeNumber, M_r03_TakeText, M_r04_Encode, iC, uC, bC, sC, Tx.c, wrap64]
    try rfl⟩
noncomputable def F_r04_Decode : ByteArray → Option (Tx × Bool) := pk_r04_Decode.1
noncomputable def M_r04_Decode : List DA → Option (List RV) := con1 eStr (fun x0 => (F_r04_Decode x0).map (res2 (rAgg ceTx) rB).enc)
theorem cc_r04_Decode : CallC Go.Proofs.Try.prog 35 M_r04_Decode := pk_r04_Decode.2
/-! ### hopper/hopperref15.to -/
theorem en_r15_to : Enters Go.Proofs.Try.prog 42 := ⟨_, Go.Proofs.Try.func42, rfl, rfl⟩
def ty_r15_to : List (Nat × TI) := [(26, { size := 3, bytes := 40, agg := true, zero := [.sc (.int .i64 0), .sc (.int .i64 0), .sl []], kind := .struct [(0, 1, false), (1, 1, false), (2, 1, false)] }), (43, { size := 15, bytes := 176, agg := true, zero := [.sc (.bool false), .sc (.int .i64 0), .sc (.int .i64 0), .sc (.int .i64 0), .sl [], .sl [], .sc (.int .i64 0), .sc (.int .i64 0), .sc (.int .i64 0), .sc (.int .i64 0), .sc (.int .i64 0), .sc (.int .i64 0), .sc (.string "".toByteArray), .sl [], .sc (.int .i64 0)], kind := .struct [(0, 1, false), (1, 1, false), (2, 3, true), (5, 1, false), (6, 9, true)] }), (3, { size := 1, bytes := 8, agg := false, zero := [.sc (.int .i64 0)], kind := .int .i64 })]
noncomputable def C_r15_to : Cfg := mkC ty_r15_to [] [(22, M_r05_Slots)] [22] [] [] [] [(1, [true, true, true, true, true, true, true, false])]
theorem E_r15_to : Env1 Go.Proofs.Try.prog C_r15_to := mkC_ok (by kernel_rfl) (⟨⟨en_r05_Slots, cc_r05_Slots⟩, trivial⟩) (by kernel_rfl)
theorem C_r15_to_ty : (C_r15_to).ty = ty_r15_to := rfl
theorem C_r15_to_eqs : (C_r15_to).eqs = [] := rfl
theorem C_r15_to_call : (C_r15_to).call = fun f => (([(22, M_r05_Slots)] : List (Nat × (List DA → Option (List RV)))).lookup f).getD fun _ => none := rfl
theorem C_r15_to_calls : (C_r15_to).calls = [22] := rfl
theorem C_r15_to_scal : (C_r15_to).scal = [22] := rfl
theorem C_r15_to_owns : (C_r15_to).owns = [] := rfl
theorem C_r15_to_vars : (C_r15_to).vars = [] := rfl
theorem C_r15_to_ores : (C_r15_to).ores = [] := rfl
theorem C_r15_to_flags : (C_r15_to).flags = [(1, [true, true, true, true, true, true, true, false])] := rfl
theorem C_r15_to_pins : (C_r15_to).pins = [] := rfl
theorem C_r15_to_inls : (C_r15_to).inls = [] := rfl
def T_r15_to : List (Nat × LoopA) := []
set_option maxHeartbeats 20000000 in
set_option maxRecDepth 100000 in
noncomputable def pk_r15_to : { F : Acc → Acc → Option (Plan) // CallC Go.Proofs.Try.prog 42 (con2 (eT ceAcc) (eT ceAcc) (fun x0 x1 => (F x0 x1).map (res1 (rAgg cePlan)).enc)) } :=
  ⟨_, cc2 E_r15_to Go.Proofs.Try.func42 rfl rfl (T := T_r15_to) (G := []) (r := (res1 (rAgg cePlan))) fun x0 x1 => by
    unfold Wf
    simp (maxSteps := 10000000) (implicitDefEqProofs := false) [-evOps, -evOne, -evOp, -evIndexAddr, -evIndex, -evPick, -binV, -evLoad, -evStore, -loadC, -callV, -nilC, -storeC, -toDVs, -toDAs, -resRs, List.lookup, List.replicate, List.range_succ, ty_r15_to, C_r15_to_ty, C_r15_to_eqs, C_r15_to_call, C_r15_to_calls, C_r15_to_scal, C_r15_to_owns, C_r15_to_vars, C_r15_to_ores, C_r15_to_flags, C_r15_to_pins, C_r15_to_inls, T_r15_to, Go.Proofs.Try.f42, M_r05_Slots, iC, uC, bC, sC, Acc.c, Event.c, Plan.c, Result.c, Tx.c]
    try rfl⟩
noncomputable def F_r15_to : Acc → Acc → Option (Plan) := pk_r15_to.1
noncomputable def M_r15_to : List DA → Option (List RV) := con2 (eT ceAcc) (eT ceAcc) (fun x0 x1 => (F_r15_to x0 x1).map (res1 (rAgg cePlan)).enc)
theorem cc_r15_to : CallC Go.Proofs.Try.prog 42 M_r15_to := pk_r15_to.2
/-! ### hopper/hopperref15.Drop -/
theorem en_r15_Drop : Enters Go.Proofs.Try.prog 16 := ⟨_, Go.Proofs.Try.func16, rfl, rfl⟩
def ty_r15_Drop : List (Nat × TI) := [(26, { size := 3, bytes := 40, agg := true, zero := [.sc (.int .i64 0), .sc (.int .i64 0), .sl []], kind := .struct [(0, 1, false), (1, 1, false), (2, 1, false)] }), (43, { size := 15, bytes := 176, agg := true, zero := [.sc (.bool false), .sc (.int .i64 0), .sc (.int .i64 0), .sc (.int .i64 0), .sl [], .sl [], .sc (.int .i64 0), .sc (.int .i64 0), .sc (.int .i64 0), .sc (.int .i64 0), .sc (.int .i64 0), .sc (.int .i64 0), .sc (.string "".toByteArray), .sl [], .sc (.int .i64 0)], kind := .struct [(0, 1, false), (1, 1, false), (2, 3, true), (5, 1, false), (6, 9, true)] }), (3, { size := 1, bytes := 8, agg := false, zero := [.sc (.int .i64 0)], kind := .int .i64 }), (34, { size := 6, bytes := 56, agg := true, zero := [.sc (.int .i64 0), .sc (.int .i64 0), .sc (.int .i64 0), .sc (.int .i64 0), .sc (.int .i64 0), .sc (.string "".toByteArray)], kind := .struct [(0, 1, false), (1, 1, false), (2, 1, false), (3, 1, false), (4, 1, false), (5, 1, false)] }), (32, { size := 1, bytes := 8, agg := false, zero := [.sc (.int .i64 0)], kind := .int .i64 }), (65, { size := 8, bytes := 72, agg := true, zero := [.sc (.int .i64 0), .sc (.int .i64 0), .sc (.int .i64 0), .sc (.int .i64 0), .sc (.int .i64 0), .sc (.int .i64 0), .sc (.string "".toByteArray), .sc (.int .i64 0)], kind := .struct [(0, 1, false), (1, 6, true), (7, 1, false)] }), (31, { size := 1, bytes := 24, agg := false, zero := [.sl []], kind := .slice 65 }), (41, { size := 9, bytes := 96, agg := true, zero := [.sc (.int .i64 0), .sc (.int .i64 0), .sc (.int .i64 0), .sc (.int .i64 0), .sc (.int .i64 0), .sc (.int .i64 0), .sc (.string "".toByteArray), .sl [], .sc (.int .i64 0)], kind := .struct [(0, 1, false), (1, 6, true), (7, 1, false), (8, 1, false)] })]
noncomputable def C_r15_Drop : Cfg := mkC ty_r15_Drop [] [(25, M_r05_Find), (33, M_r15_wrong), (43, M_r05_Drop), (42, M_r15_to)] [25] [] [] [] [(4, [true, true, true, true, true, false, false])]
theorem E_r15_Drop : Env1 Go.Proofs.Try.prog C_r15_Drop := mkC_ok (by kernel_rfl) (⟨⟨en_r05_Find, cc_r05_Find⟩, ⟨⟨en_r15_wrong, cc_r15_wrong⟩, ⟨⟨en_r05_Drop, cc_r05_Drop⟩, ⟨⟨en_r15_to, cc_r15_to⟩, trivial⟩⟩⟩⟩) (by kernel_rfl)
theorem C_r15_Drop_ty : (C_r15_Drop).ty = ty_r15_Drop := rfl
theorem C_r15_Drop_eqs : (C_r15_Drop).eqs = [] := rfl
theorem C_r15_Drop_call : (C_r15_Drop).call = fun f => (([(25, M_r05_Find), (33, M_r15_wrong), (43, M_r05_Drop), (42, M_r15_to)] : List (Nat × (List DA → Option (List RV)))).lookup f).getD fun _ => none := rfl
theorem C_r15_Drop_calls : (C_r15_Drop).calls = [25, 33, 43, 42] := rfl
theorem C_r15_Drop_scal : (C_r15_Drop).scal = [25] := rfl
theorem C_r15_Drop_owns : (C_r15_Drop).owns = [] := rfl
theorem C_r15_Drop_vars : (C_r15_Drop).vars = [] := rfl
theorem C_r15_Drop_ores : (C_r15_Drop).ores = [] := rfl
theorem C_r15_Drop_flags : (C_r15_Drop).flags = [(4, [true, true, true, true, true, false, false])] := rfl
theorem C_r15_Drop_pins : (C_r15_Drop).pins = [] := rfl
theorem C_r15_Drop_inls : (C_r15_Drop).inls = [] := rfl
def T_r15_Drop : List (Nat × LoopA) := []
set_option maxHeartbeats 20000000 in
set_option maxRecDepth 100000 in
noncomputable def pk_r15_Drop : { F : Acc → Int → Option (Plan) // CallC Go.Proofs.Try.prog 16 (con2 (eT ceAcc) eInt (fun x0 x1 => (F x0 x1).map (res1 (rAgg cePlan)).enc)) } :=
  ⟨_, cc2 E_r15_Drop Go.Proofs.Try.func16 rfl rfl (T := T_r15_Drop) (G := []) (r := (res1 (rAgg cePlan))) fun x0 x1 => by
    unfold Wf
    simp (maxSteps := 10000000) (implicitDefEqProofs := false) [-evOps, -evOne, -evOp, -evIndexAddr, -evIndex, -evPick, -binV, -evLoad, -evStore, -loadC, -callV, -nilC, -storeC, -toDVs, -toDAs, -resRs, List.lookup, List.replicate, List.range_succ, ty_r15_Drop, C_r15_Drop_ty, C_r15_Drop_eqs, C_r15_Drop_call, C_r15_Drop_calls, C_r15_Drop_scal, C_r15_Drop_owns, C_r15_Drop_vars, C_r15_Drop_ores, C_r15_Drop_flags, C_r15_Drop_pins, C_r15_Drop_inls, T_r15_Drop, Go.Proofs.Try.f16, M_r05_Find, M_r15_wrong, M_r05_Drop, M_r15_to, iC, uC, bC, sC, Acc.c, Event.c, Plan.c, Result.c, Tx.c]
    try rfl⟩
noncomputable def F_r15_Drop : Acc → Int → Option (Plan) := pk_r15_Drop.1
noncomputable def M_r15_Drop : List DA → Option (List RV) := con2 (eT ceAcc) eInt (fun x0 x1 => (F_r15_Drop x0 x1).map (res1 (rAgg cePlan)).enc)
theorem cc_r15_Drop : CallC Go.Proofs.Try.prog 16 M_r15_Drop := pk_r15_Drop.2
/-! ### hopper/hopperref15.add -/
theorem en_r15_add : Enters Go.Proofs.Try.prog 31 := ⟨_, Go.Proofs.Try.func31, rfl, rfl⟩
def ty_r15_add : List (Nat × TI) := [(23, { size := 8, bytes := 64, agg := true, zero := [.sc (.int .i64 0), .sc (.int .i64 0), .sc (.int .i64 0), .sc (.int .i64 0), .sc (.int .i64 0), .sc (.int .i64 0), .sc (.int .i64 0), .sc (.int .i64 0)], kind := .struct [(0, 1, false), (1, 1, false), (2, 1, false), (3, 1, false), (4, 1, false), (5, 1, false), (6, 1, false), (7, 1, false)] }), (26, { size := 3, bytes := 40, agg := true, zero := [.sc (.int .i64 0), .sc (.int .i64 0), .sl []], kind := .struct [(0, 1, false), (1, 1, false), (2, 1, false)] }), (43, { size := 15, bytes := 176, agg := true, zero := [.sc (.bool false), .sc (.int .i64 0), .sc (.int .i64 0), .sc (.int .i64 0), .sl [], .sl [], .sc (.int .i64 0), .sc (.int .i64 0), .sc (.int .i64 0), .sc (.int .i64 0), .sc (.int .i64 0), .sc (.int .i64 0), .sc (.string "".toByteArray), .sl [], .sc (.int .i64 0)], kind := .struct [(0, 1, false), (1, 1, false), (2, 3, true), (5, 1, false), (6, 9, true)] }), (9, { size := 1, bytes := 16, agg := false, zero := [.sc (.string "".toByteArray)], kind := .str }), (34, { size := 6, bytes := 56, agg := true, zero := [.sc (.int .i64 0), .sc (.int .i64 0), .sc (.int .i64 0), .sc (.int .i64 0), .sc (.int .i64 0), .sc (.string "".toByteArray)], kind := .struct [(0, 1, false), (1, 1, false), (2, 1, false), (3, 1, false), (4, 1, false), (5, 1, false)] }), (32, { size := 1, bytes := 8, agg := false, zero := [.sc (.int .i64 0)], kind := .int .i64 }), (3, { size := 1, bytes := 8, agg := false, zero := [.sc (.int .i64 0)], kind := .int .i64 }), (65, { size := 8, bytes := 72, agg := true, zero := [.sc (.int .i64 0), .sc (.int .i64 0), .sc (.int .i64 0), .sc (.int .i64 0), .sc (.int .i64 0), .sc (.int .i64 0), .sc (.string "".toByteArray), .sc (.int .i64 0)], kind := .struct [(0, 1, false), (1, 6, true), (7, 1, false)] }), (31, { size := 1, bytes := 24, agg := false, zero := [.sl []], kind := .slice 65 })]
noncomputable def C_r15_add : Cfg := mkC ty_r15_add [] [(35, M_r04_Decode), (33, M_r15_wrong), (52, M_r05_Place), (25, M_r05_Find), (53, M_r05_Put), (42, M_r15_to)] [35, 52, 25] [] [] [] [(8, [true, true, true, true, true, false, false])]
theorem E_r15_add : Env1 Go.Proofs.Try.prog C_r15_add := mkC_ok (by kernel_rfl) (⟨⟨en_r04_Decode, cc_r04_Decode⟩, ⟨⟨en_r15_wrong, cc_r15_wrong⟩, ⟨⟨en_r05_Place, cc_r05_Place⟩, ⟨⟨en_r05_Find, cc_r05_Find⟩, ⟨⟨en_r05_Put, cc_r05_Put⟩, ⟨⟨en_r15_to, cc_r15_to⟩, trivial⟩⟩⟩⟩⟩⟩) (by kernel_rfl)
theorem C_r15_add_ty : (C_r15_add).ty = ty_r15_add := rfl
theorem C_r15_add_eqs : (C_r15_add).eqs = [] := rfl
theorem C_r15_add_call : (C_r15_add).call = fun f => (([(35, M_r04_Decode), (33, M_r15_wrong), (52, M_r05_Place), (25, M_r05_Find), (53, M_r05_Put), (42, M_r15_to)] : List (Nat × (List DA → Option (List RV)))).lookup f).getD fun _ => none := rfl
theorem C_r15_add_calls : (C_r15_add).calls = [35, 33, 52, 25, 53, 42] := rfl
theorem C_r15_add_scal : (C_r15_add).scal = [35, 52, 25] := rfl
theorem C_r15_add_owns : (C_r15_add).owns = [] := rfl
theorem C_r15_add_vars : (C_r15_add).vars = [] := rfl
theorem C_r15_add_ores : (C_r15_add).ores = [] := rfl
theorem C_r15_add_flags : (C_r15_add).flags = [(8, [true, true, true, true, true, false, false])] := rfl
theorem C_r15_add_pins : (C_r15_add).pins = [] := rfl
theorem C_r15_add_inls : (C_r15_add).inls = [] := rfl
def T_r15_add : List (Nat × LoopA) := []
set_option maxHeartbeats 20000000 in
set_option maxRecDepth 100000 in
noncomputable def pk_r15_add : { F : Config → Acc → ByteArray → Option (Plan) // CallC Go.Proofs.Try.prog 31 (con3 (eT ceConfig) (eT ceAcc) eStr (fun x0 x1 x2 => (F x0 x1 x2).map (res1 (rAgg cePlan)).enc)) } :=
  ⟨_, cc3 E_r15_add Go.Proofs.Try.func31 rfl rfl (T := T_r15_add) (G := []) (r := (res1 (rAgg cePlan))) fun x0 x1 x2 => by
    unfold Wf
    simp (maxSteps := 10000000) (implicitDefEqProofs := false) [-evOps, -evOne, -evOp, -evIndexAddr, -evIndex, -evPick, -binV, -evLoad, -evStore, -loadC, -callV, -nilC, -storeC, -toDVs, -toDAs, -resRs, List.lookup, List.replicate, List.range_succ, ty_r15_add, C_r15_add_ty, C_r15_add_eqs, C_r15_add_call, C_r15_add_calls, C_r15_add_scal, C_r15_add_owns, C_r15_add_vars, C_r15_add_ores, C_r15_add_flags, C_r15_add_pins, C_r15_add_inls, T_r15_add, Go.Proofs.Try.f31, M_r04_Decode, M_r15_wrong, M_r05_Place, M_r05_Find, M_r05_Put, M_r15_to, iC, uC, bC, sC, Acc.c, Config.c, Event.c, Plan.c, Result.c, Tx.c]
    try rfl⟩
noncomputable def F_r15_add : Config → Acc → ByteArray → Option (Plan) := pk_r15_add.1
noncomputable def M_r15_add : List DA → Option (List RV) := con3 (eT ceConfig) (eT ceAcc) eStr (fun x0 x1 x2 => (F_r15_add x0 x1 x2).map (res1 (rAgg cePlan)).enc)
theorem cc_r15_add : CallC Go.Proofs.Try.prog 31 M_r15_add := pk_r15_add.2
/-! ### hopper/hopperref15.advance -/
theorem en_r15_advance : Enters Go.Proofs.Try.prog 32 := ⟨_, Go.Proofs.Try.func32, rfl, rfl⟩
def ty_r15_advance : List (Nat × TI) := [(26, { size := 3, bytes := 40, agg := true, zero := [.sc (.int .i64 0), .sc (.int .i64 0), .sl []], kind := .struct [(0, 1, false), (1, 1, false), (2, 1, false)] }), (43, { size := 15, bytes := 176, agg := true, zero := [.sc (.bool false), .sc (.int .i64 0), .sc (.int .i64 0), .sc (.int .i64 0), .sl [], .sl [], .sc (.int .i64 0), .sc (.int .i64 0), .sc (.int .i64 0), .sc (.int .i64 0), .sc (.int .i64 0), .sc (.int .i64 0), .sc (.string "".toByteArray), .sl [], .sc (.int .i64 0)], kind := .struct [(0, 1, false), (1, 1, false), (2, 3, true), (5, 1, false), (6, 9, true)] }), (3, { size := 1, bytes := 8, agg := false, zero := [.sc (.int .i64 0)], kind := .int .i64 }), (32, { size := 1, bytes := 8, agg := false, zero := [.sc (.int .i64 0)], kind := .int .i64 }), (24, { size := 1, bytes := 24, agg := false, zero := [.sl []], kind := .slice 34 }), (4, { size := 1, bytes := 1, agg := false, zero := [.sc (.bool false)], kind := .bool }), (41, { size := 9, bytes := 96, agg := true, zero := [.sc (.int .i64 0), .sc (.int .i64 0), .sc (.int .i64 0), .sc (.int .i64 0), .sc (.int .i64 0), .sc (.int .i64 0), .sc (.string "".toByteArray), .sl [], .sc (.int .i64 0)], kind := .struct [(0, 1, false), (1, 6, true), (7, 1, false), (8, 1, false)] }), (31, { size := 1, bytes := 24, agg := false, zero := [.sl []], kind := .slice 65 }), (34, { size := 6, bytes := 56, agg := true, zero := [.sc (.int .i64 0), .sc (.int .i64 0), .sc (.int .i64 0), .sc (.int .i64 0), .sc (.int .i64 0), .sc (.string "".toByteArray)], kind := .struct [(0, 1, false), (1, 1, false), (2, 1, false), (3, 1, false), (4, 1, false), (5, 1, false)] }), (65, { size := 8, bytes := 72, agg := true, zero := [.sc (.int .i64 0), .sc (.int .i64 0), .sc (.int .i64 0), .sc (.int .i64 0), .sc (.int .i64 0), .sc (.int .i64 0), .sc (.string "".toByteArray), .sc (.int .i64 0)], kind := .struct [(0, 1, false), (1, 6, true), (7, 1, false)] })]
noncomputable def C_r15_advance : Cfg := mkC ty_r15_advance [] [(33, M_r15_wrong), (54, M_r05_Advance), (42, M_r15_to)] [] [(9, [(0, 65, 8)])] [4,6,8,9,10] [] []
theorem E_r15_advance : Env1 Go.Proofs.Try.prog C_r15_advance := mkC_ok (by kernel_rfl) (⟨⟨en_r15_wrong, cc_r15_wrong⟩, ⟨⟨en_r05_Advance, cc_r05_Advance⟩, ⟨⟨en_r15_to, cc_r15_to⟩, trivial⟩⟩⟩) (by kernel_rfl)
theorem C_r15_advance_ty : (C_r15_advance).ty = ty_r15_advance := rfl
theorem C_r15_advance_eqs : (C_r15_advance).eqs = [] := rfl
theorem C_r15_advance_call : (C_r15_advance).call = fun f => (([(33, M_r15_wrong), (54, M_r05_Advance), (42, M_r15_to)] : List (Nat × (List DA → Option (List RV)))).lookup f).getD fun _ => none := rfl
theorem C_r15_advance_calls : (C_r15_advance).calls = [33, 54, 42] := rfl
theorem C_r15_advance_scal : (C_r15_advance).scal = [] := rfl
theorem C_r15_advance_owns : (C_r15_advance).owns = [(9, [(0, 65, 8)])] := rfl
theorem C_r15_advance_vars : (C_r15_advance).vars = [4,6,8,9,10] := rfl
theorem C_r15_advance_ores : (C_r15_advance).ores = [] := rfl
theorem C_r15_advance_flags : (C_r15_advance).flags = [] := rfl
theorem C_r15_advance_pins : (C_r15_advance).pins = [] := rfl
theorem C_r15_advance_inls : (C_r15_advance).inls = [] := rfl
structure L_r15_advance_0 where
  gone : List Tx
  i : Int
  o0 : Acc
  changes : Bool
  delta : Int
  after_sender : Int
  after_base : Int
  result_err : Int
  result_tx_sender : Int
  result_tx_nonce : Int
  result_tx_tip : Int
  result_tx_cap : Int
  result_tx_gas : Int
  result_tx_data : ByteArray
  result_slots : Int
  o2 : Acc
  p : Plan
  events : List Event
def an_r15_advance_0 : Ann := mkAnn (σ := L_r15_advance_0) (lSkip vUnk <| lSkip vUnk <| lSkip vUnk <| lSkip vUnk <| lSkip (vOne (cPtr 1 0 0)) <| lSkip vUnk <| lCons (vOne (cSl ceTx)) <| lSkip vUnk <| lSkip (vOne (cPtr 3 0 0)) <| lCons (vOne (cOwn 4)) <| lCons (vOne cI) <| lSkip vUnk <| lSkip vUnk <| lSkip vUnk <| lSkip vUnk <| lSkip vUnk <| lSkip vUnk <| lSkip vUnk <| lSkip vUnk <| lSkip vUnk <| lSkip vUnk <| lSkip vUnk <| lSkip vUnk <| lSkip vUnk <| lSkip vUnk <| lSkip vUnk <| lSkip vUnk <| lSkip vUnk <| lSkip vUnk <| lSkip vUnk <| lSkip vUnk <| lSkip vUnk <| lSkip vUnk <| lSkip vUnk <| lSkip vUnk <| lSkip vUnk <| lSkip vUnk <| lSkip vUnk <| lSkip vUnk <| lSkip vUnk <| lSkip vUnk <| lSkip vUnk <| lSkip vUnk <| lSkip vUnk <| lSkip vUnk <| lSkip vUnk <| lSkip vUnk <| lSkip vUnk <| lSkip vUnk <| lSkip vUnk <| lSkip vUnk <| lSkip vUnk <| lSkip vUnk <| lSkip vUnk <| lSkip vUnk <| lSkip vUnk <| lSkip vUnk <| lSkip vUnk <| lSkip vUnk <| lSkip vUnk <| lSkip vUnk <| lSkip vUnk <| lSkip vUnk <| lSkip vUnk <|  lNil) (lCons (oBox 26 (cStr ceAcc)) <| lCons (oBox 43 (lCons cB <| lCons cI <| lCons cI <| lCons cI <| lSkip cNil <| lSkip cNil <| lCons cI <| lCons cI <| lCons cI <| lCons cI <| lCons cI <| lCons cI <| lCons cS <| lSkip cNil <| lCons cI <|  lNil)) <| lCons (oBox 26 (cStr ceAcc)) <| lCons (oBox 43 (cStr cePlan)) <| lCons (oArr 65 8 ceEvent) <|  lNil)
  (fun a b => L_r15_advance_0.mk (a.1) (a.2.2.1) (b.1) (b.2.1.1) (b.2.1.2.1) (b.2.1.2.2.1) (b.2.1.2.2.2.1) (b.2.1.2.2.2.2.1) (b.2.1.2.2.2.2.2.1) (b.2.1.2.2.2.2.2.2.1) (b.2.1.2.2.2.2.2.2.2.1) (b.2.1.2.2.2.2.2.2.2.2.1) (b.2.1.2.2.2.2.2.2.2.2.2.1) (b.2.1.2.2.2.2.2.2.2.2.2.2.1) (b.2.1.2.2.2.2.2.2.2.2.2.2.2.1) (b.2.2.1) (b.2.2.2.1) (b.2.2.2.2.1)) (fun s => (s.gone, s.events.length, s.i, ())) (fun s => (s.o0, (s.changes, s.delta, s.after_sender, s.after_base, s.result_err, s.result_tx_sender, s.result_tx_nonce, s.result_tx_tip, s.result_tx_cap, s.result_tx_gas, s.result_tx_data, s.result_slots, ()), s.o2, s.p, s.events, ())) (fun a b => decide (a.2.1 = (b.2.2.2.2.1).length)) (by rintro ⟨a0, a1, a2, _⟩ ⟨b0, ⟨c1_0, c1_1, c1_2, c1_3, c1_4, c1_5, c1_6, c1_7, c1_8, c1_9, c1_10, c1_11, _⟩, b2, b3, b4, _⟩ h; simp at h; simp [h])
theorem an_r15_advance_0_st (s : an_r15_advance_0.σ) : an_r15_advance_0.st s = ([.unk, .unk, .unk, .unk, .v (.one (.ptr 1 0 0)), .unk, .v (.one (.d (.sl ((L_r15_advance_0.gone s).map Tx.c)))), .unk, .v (.one (.ptr 3 0 0)), .v (.one (.own 4 (L_r15_advance_0.events s).length)), .v (.one (.d (.sc (.int .i64 (L_r15_advance_0.i s))))), .unk, .unk, .unk, .unk, .unk, .unk, .unk, .unk, .unk, .unk, .unk, .unk, .unk, .unk, .unk, .unk, .unk, .unk, .unk, .unk, .unk, .unk, .unk, .unk, .unk, .unk, .unk, .unk, .unk, .unk, .unk, .unk, .unk, .unk, .unk, .unk, .unk, .unk, .unk, .unk, .unk, .unk, .unk, .unk, .unk, .unk, .unk, .unk, .unk, .unk, .unk, .unk, .unk], [.box 26 (ddv (Acc.c (L_r15_advance_0.o0 s))), .box 43 [.d (.sc (.bool (L_r15_advance_0.changes s))), .d (.sc (.int .i64 (L_r15_advance_0.delta s))), .d (.sc (.int .i64 (L_r15_advance_0.after_sender s))), .d (.sc (.int .i64 (L_r15_advance_0.after_base s))), .nil, .nil, .d (.sc (.int .i64 (L_r15_advance_0.result_err s))), .d (.sc (.int .i64 (L_r15_advance_0.result_tx_sender s))), .d (.sc (.int .i64 (L_r15_advance_0.result_tx_nonce s))), .d (.sc (.int .i64 (L_r15_advance_0.result_tx_tip s))), .d (.sc (.int .i64 (L_r15_advance_0.result_tx_cap s))), .d (.sc (.int .i64 (L_r15_advance_0.result_tx_gas s))), .d (.sc (.string (L_r15_advance_0.result_tx_data s))), .nil, .d (.sc (.int .i64 (L_r15_advance_0.result_slots s)))], .box 26 (ddv (Acc.c (L_r15_advance_0.o2 s))), .box 43 (ddv (Plan.c (L_r15_advance_0.p s))), .arr 65 8 ((L_r15_advance_0.events s).map Event.c)]) := rfl
set_option maxHeartbeats 4000000 in
set_option maxRecDepth 100000 in
theorem an_r15_advance_0_un {β : Type} (p_gone : List (List DV)) (m1_events : Nat) (i : Int) (p_o0 : List CV) (changes : Bool) (delta : Int) (after_sender : Int) (after_base : Int) (result_err : Int) (result_tx_sender : Int) (result_tx_nonce : Int) (result_tx_tip : Int) (result_tx_cap : Int) (result_tx_gas : Int) (result_tx_data : ByteArray) (result_slots : Int) (p_o2 : List CV) (p_p : List CV) (p_events : List (List DV)) (f_ : an_r15_advance_0.σ → Option β) : (an_r15_advance_0.un [.unk, .unk, .unk, .unk, .v (.one (.ptr 1 0 0)), .unk, .v (.one (.d (.sl p_gone))), .unk, .v (.one (.ptr 3 0 0)), .v (.one (.own 4 m1_events)), .v (.one (.d (.sc (.int .i64 i)))), .unk, .unk, .unk, .unk, .unk, .unk, .unk, .unk, .unk, .unk, .unk, .unk, .unk, .unk, .unk, .unk, .unk, .unk, .unk, .unk, .unk, .unk, .unk, .unk, .unk, .unk, .unk, .unk, .unk, .unk, .unk, .unk, .unk, .unk, .unk, .unk, .unk, .unk, .unk, .unk, .unk, .unk, .unk, .unk, .unk, .unk, .unk, .unk, .unk, .unk, .unk, .unk, .unk] [.box 26 p_o0, .box 43 [.d (.sc (.bool changes)), .d (.sc (.int .i64 delta)), .d (.sc (.int .i64 after_sender)), .d (.sc (.int .i64 after_base)), .nil, .nil, .d (.sc (.int .i64 result_err)), .d (.sc (.int .i64 result_tx_sender)), .d (.sc (.int .i64 result_tx_nonce)), .d (.sc (.int .i64 result_tx_tip)), .d (.sc (.int .i64 result_tx_cap)), .d (.sc (.int .i64 result_tx_gas)), .d (.sc (.string result_tx_data)), .nil, .d (.sc (.int .i64 result_slots))], .box 26 p_o2, .box 43 p_p, .arr 65 8 p_events]).bind f_ = (decL dTx p_gone).bind fun gone => ((allD p_o0).bind dAcc).bind fun o0 => ((allD p_o2).bind dAcc).bind fun o2 => ((allD p_p).bind dPlan).bind fun p => (decL dEvent p_events).bind fun events => (if m1_events = events.length then f_ (L_r15_advance_0.mk gone i o0 changes delta after_sender after_base result_err result_tx_sender result_tx_nonce result_tx_tip result_tx_cap result_tx_gas result_tx_data result_slots o2 p events) else none) :=
  (mkAnn_un (σ := L_r15_advance_0) _ _ _ _ _ _ _ _ _ f_).trans (by simp [Option.bind_assoc, bind_ite])
def T_r15_advance : List (Nat × LoopA) := [(0, .ty an_r15_advance_0)]
set_option maxHeartbeats 20000000 in
set_option maxRecDepth 100000 in
noncomputable def pk_r15_advance : { F : Acc → Int → Option (Plan) // CallC Go.Proofs.Try.prog 32 (con2 (eT ceAcc) eInt (fun x0 x1 => (F x0 x1).map (res1 (rAgg cePlan)).enc)) } :=
  ⟨_, cc2 E_r15_advance Go.Proofs.Try.func32 rfl rfl (T := T_r15_advance) (G := []) (r := (res1 (rAgg cePlan))) fun x0 x1 => by
    unfold Wf
    simp (maxSteps := 10000000) (implicitDefEqProofs := false) [-evOps, -evOne, -evOp, -evIndexAddr, -evIndex, -evPick, -binV, -evLoad, -evStore, -loadC, -callV, -nilC, -storeC, -toDVs, -toDAs, -resRs, List.lookup, List.replicate, List.range_succ, ty_r15_advance, C_r15_advance_ty, C_r15_advance_eqs, C_r15_advance_call, C_r15_advance_calls, C_r15_advance_scal, C_r15_advance_owns, C_r15_advance_vars, C_r15_advance_ores, C_r15_advance_flags, C_r15_advance_pins, C_r15_advance_inls, T_r15_advance, Go.Proofs.Try.f32, M_r15_wrong, M_r05_Advance, M_r15_to, an_r15_advance_0_st, an_r15_advance_0_un, iC, uC, bC, sC, Acc.c, Event.c, Plan.c, Result.c, Tx.c]
    try rfl⟩
noncomputable def F_r15_advance : Acc → Int → Option (Plan) := pk_r15_advance.1
noncomputable def M_r15_advance : List DA → Option (List RV) := con2 (eT ceAcc) eInt (fun x0 x1 => (F_r15_advance x0 x1).map (res1 (rAgg cePlan)).enc)
theorem cc_r15_advance : CallC Go.Proofs.Try.prog 32 M_r15_advance := pk_r15_advance.2
/-! ### hopper/hopperref15.Look -/
theorem en_r15_Look : Enters Go.Proofs.Try.prog 10 := ⟨_, Go.Proofs.Try.func10, rfl, rfl⟩
def ty_r15_Look : List (Nat × TI) := [(23, { size := 8, bytes := 64, agg := true, zero := [.sc (.int .i64 0), .sc (.int .i64 0), .sc (.int .i64 0), .sc (.int .i64 0), .sc (.int .i64 0), .sc (.int .i64 0), .sc (.int .i64 0), .sc (.int .i64 0)], kind := .struct [(0, 1, false), (1, 1, false), (2, 1, false), (3, 1, false), (4, 1, false), (5, 1, false), (6, 1, false), (7, 1, false)] }), (26, { size := 3, bytes := 40, agg := true, zero := [.sc (.int .i64 0), .sc (.int .i64 0), .sl []], kind := .struct [(0, 1, false), (1, 1, false), (2, 1, false)] }), (28, { size := 5, bytes := 48, agg := true, zero := [.sc (.int .i64 0), .sc (.int .i64 0), .sc (.int .i64 0), .sc (.int .i64 0), .sc (.string "".toByteArray)], kind := .struct [(0, 1, false), (1, 1, false), (2, 1, false), (3, 1, false), (4, 1, false)] }), (43, { size := 15, bytes := 176, agg := true, zero := [.sc (.bool false), .sc (.int .i64 0), .sc (.int .i64 0), .sc (.int .i64 0), .sl [], .sl [], .sc (.int .i64 0), .sc (.int .i64 0), .sc (.int .i64 0), .sc (.int .i64 0), .sc (.int .i64 0), .sc (.int .i64 0), .sc (.string "".toByteArray), .sl [], .sc (.int .i64 0)], kind := .struct [(0, 1, false), (1, 1, false), (2, 3, true), (5, 1, false), (6, 9, true)] }), (3, { size := 1, bytes := 8, agg := false, zero := [.sc (.int .i64 0)], kind := .int .i64 }), (9, { size := 1, bytes := 16, agg := false, zero := [.sc (.string "".toByteArray)], kind := .str }), (34, { size := 6, bytes := 56, agg := true, zero := [.sc (.int .i64 0), .sc (.int .i64 0), .sc (.int .i64 0), .sc (.int .i64 0), .sc (.int .i64 0), .sc (.string "".toByteArray)], kind := .struct [(0, 1, false), (1, 1, false), (2, 1, false), (3, 1, false), (4, 1, false), (5, 1, false)] }), (32, { size := 1, bytes := 8, agg := false, zero := [.sc (.int .i64 0)], kind := .int .i64 }), (41, { size := 9, bytes := 96, agg := true, zero := [.sc (.int .i64 0), .sc (.int .i64 0), .sc (.int .i64 0), .sc (.int .i64 0), .sc (.int .i64 0), .sc (.int .i64 0), .sc (.string "".toByteArray), .sl [], .sc (.int .i64 0)], kind := .struct [(0, 1, false), (1, 6, true), (7, 1, false), (8, 1, false)] })]
noncomputable def C_r15_Look : Cfg := mkC ty_r15_Look [] [(31, M_r15_add), (16, M_r15_Drop), (32, M_r15_advance), (25, M_r05_Find), (33, M_r15_wrong)] [25] [] [] [] []
theorem E_r15_Look : Env1 Go.Proofs.Try.prog C_r15_Look := mkC_ok (by kernel_rfl) (⟨⟨en_r15_add, cc_r15_add⟩, ⟨⟨en_r15_Drop, cc_r15_Drop⟩, ⟨⟨en_r15_advance, cc_r15_advance⟩, ⟨⟨en_r05_Find, cc_r05_Find⟩, ⟨⟨en_r15_wrong, cc_r15_wrong⟩, trivial⟩⟩⟩⟩⟩) (by kernel_rfl)
theorem C_r15_Look_ty : (C_r15_Look).ty = ty_r15_Look := rfl
theorem C_r15_Look_eqs : (C_r15_Look).eqs = [] := rfl
theorem C_r15_Look_call : (C_r15_Look).call = fun f => (([(31, M_r15_add), (16, M_r15_Drop), (32, M_r15_advance), (25, M_r05_Find), (33, M_r15_wrong)] : List (Nat × (List DA → Option (List RV)))).lookup f).getD fun _ => none := rfl
theorem C_r15_Look_calls : (C_r15_Look).calls = [31, 16, 32, 25, 33] := rfl
theorem C_r15_Look_scal : (C_r15_Look).scal = [25] := rfl
theorem C_r15_Look_owns : (C_r15_Look).owns = [] := rfl
theorem C_r15_Look_vars : (C_r15_Look).vars = [] := rfl
theorem C_r15_Look_ores : (C_r15_Look).ores = [] := rfl
theorem C_r15_Look_flags : (C_r15_Look).flags = [] := rfl
theorem C_r15_Look_pins : (C_r15_Look).pins = [] := rfl
theorem C_r15_Look_inls : (C_r15_Look).inls = [] := rfl
def T_r15_Look : List (Nat × LoopA) := []
set_option maxHeartbeats 20000000 in
set_option maxRecDepth 100000 in
noncomputable def pk_r15_Look : { F : Config → Acc → Op → Option (Plan) // CallC Go.Proofs.Try.prog 10 (con3 (eT ceConfig) (eT ceAcc) (eT ceOp) (fun x0 x1 x2 => (F x0 x1 x2).map (res1 (rAgg cePlan)).enc)) } :=
  ⟨_, cc3 E_r15_Look Go.Proofs.Try.func10 rfl rfl (T := T_r15_Look) (G := []) (r := (res1 (rAgg cePlan))) fun x0 x1 x2 => by
    unfold Wf
    simp (maxSteps := 10000000) (implicitDefEqProofs := false) [-evOps, -evOne, -evOp, -evIndexAddr, -evIndex, -evPick, -binV, -evLoad, -evStore, -loadC, -callV, -nilC, -storeC, -toDVs, -toDAs, -resRs, List.lookup, List.replicate, List.range_succ, ty_r15_Look, C_r15_Look_ty, C_r15_Look_eqs, C_r15_Look_call, C_r15_Look_calls, C_r15_Look_scal, C_r15_Look_owns, C_r15_Look_vars, C_r15_Look_ores, C_r15_Look_flags, C_r15_Look_pins, C_r15_Look_inls, T_r15_Look, Go.Proofs.Try.f10, M_r15_add, M_r15_Drop, M_r15_advance, M_r05_Find, M_r15_wrong, iC, uC, bC, sC, Acc.c, Config.c, Event.c, Op.c, Plan.c, Result.c, Tx.c]
    try rfl⟩
noncomputable def F_r15_Look : Config → Acc → Op → Option (Plan) := pk_r15_Look.1
noncomputable def M_r15_Look : List DA → Option (List RV) := con3 (eT ceConfig) (eT ceAcc) (eT ceOp) (fun x0 x1 x2 => (F_r15_Look x0 x1 x2).map (res1 (rAgg cePlan)).enc)
theorem cc_r15_Look : CallC Go.Proofs.Try.prog 10 M_r15_Look := pk_r15_Look.2
/-! ### hopper/hopperref15.Whose -/
theorem en_r15_Whose : Enters Go.Proofs.Try.prog 12 := ⟨_, Go.Proofs.Try.func12, rfl, rfl⟩
def ty_r15_Whose : List (Nat × TI) := [(28, { size := 5, bytes := 48, agg := true, zero := [.sc (.int .i64 0), .sc (.int .i64 0), .sc (.int .i64 0), .sc (.int .i64 0), .sc (.string "".toByteArray)], kind := .struct [(0, 1, false), (1, 1, false), (2, 1, false), (3, 1, false), (4, 1, false)] }), (3, { size := 1, bytes := 8, agg := false, zero := [.sc (.int .i64 0)], kind := .int .i64 }), (9, { size := 1, bytes := 16, agg := false, zero := [.sc (.string "".toByteArray)], kind := .str }), (34, { size := 6, bytes := 56, agg := true, zero := [.sc (.int .i64 0), .sc (.int .i64 0), .sc (.int .i64 0), .sc (.int .i64 0), .sc (.int .i64 0), .sc (.string "".toByteArray)], kind := .struct [(0, 1, false), (1, 1, false), (2, 1, false), (3, 1, false), (4, 1, false), (5, 1, false)] })]
noncomputable def C_r15_Whose : Cfg := mkC ty_r15_Whose [] [(35, M_r04_Decode)] [35] [] [] [] []
theorem E_r15_Whose : Env1 Go.Proofs.Try.prog C_r15_Whose := mkC_ok (by kernel_rfl) (⟨⟨en_r04_Decode, cc_r04_Decode⟩, trivial⟩) (by kernel_rfl)
theorem C_r15_Whose_ty : (C_r15_Whose).ty = ty_r15_Whose := rfl
theorem C_r15_Whose_eqs : (C_r15_Whose).eqs = [] := rfl
theorem C_r15_Whose_call : (C_r15_Whose).call = fun f => (([(35, M_r04_Decode)] : List (Nat × (List DA → Option (List RV)))).lookup f).getD fun _ => none := rfl
theorem C_r15_Whose_calls : (C_r15_Whose).calls = [35] := rfl
theorem C_r15_Whose_scal : (C_r15_Whose).scal = [35] := rfl
theorem C_r15_Whose_owns : (C_r15_Whose).owns = [] := rfl
theorem C_r15_Whose_vars : (C_r15_Whose).vars = [] := rfl
theorem C_r15_Whose_ores : (C_r15_Whose).ores = [] := rfl
theorem C_r15_Whose_flags : (C_r15_Whose).flags = [] := rfl
theorem C_r15_Whose_pins : (C_r15_Whose).pins = [] := rfl
theorem C_r15_Whose_inls : (C_r15_Whose).inls = [] := rfl
def T_r15_Whose : List (Nat × LoopA) := []
set_option maxHeartbeats 20000000 in
set_option maxRecDepth 100000 in
noncomputable def pk_r15_Whose : { F : Op → Option (Int × Bool) // CallC Go.Proofs.Try.prog 12 (con1 (eT ceOp) (fun x0 => (F x0).map (res2 rI rB).enc)) } :=
  ⟨_, cc1 E_r15_Whose Go.Proofs.Try.func12 rfl rfl (T := T_r15_Whose) (G := []) (r := (res2 rI rB)) fun x0 => by
    unfold Wf
    simp (maxSteps := 10000000) (implicitDefEqProofs := false) [-evOps, -evOne, -evOp, -evIndexAddr, -evIndex, -evPick, -binV, -evLoad, -evStore, -loadC, -callV, -nilC, -storeC, -toDVs, -toDAs, -resRs, List.lookup, List.replicate, List.range_succ, ty_r15_Whose, C_r15_Whose_ty, C_r15_Whose_eqs, C_r15_Whose_call, C_r15_Whose_calls, C_r15_Whose_scal, C_r15_Whose_owns, C_r15_Whose_vars, C_r15_Whose_ores, C_r15_Whose_flags, C_r15_Whose_pins, C_r15_Whose_inls, T_r15_Whose, Go.Proofs.Try.f12, M_r04_Decode, iC, uC, bC, sC, Op.c, Tx.c]
    try rfl⟩
noncomputable def F_r15_Whose : Op → Option (Int × Bool) := pk_r15_Whose.1
noncomputable def M_r15_Whose : List DA → Option (List RV) := con1 (eT ceOp) (fun x0 => (F_r15_Whose x0).map (res2 rI rB).enc)
theorem cc_r15_Whose : CallC Go.Proofs.Try.prog 12 M_r15_Whose := pk_r15_Whose.2
/-! ### hopper/hopperref15.Same -/
theorem en_r15_Same : Enters Go.Proofs.Try.prog 13 := ⟨_, Go.Proofs.Try.func13, rfl, rfl⟩
def ty_r15_Same : List (Nat × TI) := [(43, { size := 15, bytes := 176, agg := true, zero := [.sc (.bool false), .sc (.int .i64 0), .sc (.int .i64 0), .sc (.int .i64 0), .sl [], .sl [], .sc (.int .i64 0), .sc (.int .i64 0), .sc (.int .i64 0), .sc (.int .i64 0), .sc (.int .i64 0), .sc (.int .i64 0), .sc (.string "".toByteArray), .sl [], .sc (.int .i64 0)], kind := .struct [(0, 1, false), (1, 1, false), (2, 3, true), (5, 1, false), (6, 9, true)] }), (4, { size := 1, bytes := 1, agg := false, zero := [.sc (.bool false)], kind := .bool }), (3, { size := 1, bytes := 8, agg := false, zero := [.sc (.int .i64 0)], kind := .int .i64 }), (26, { size := 3, bytes := 40, agg := true, zero := [.sc (.int .i64 0), .sc (.int .i64 0), .sl []], kind := .struct [(0, 1, false), (1, 1, false), (2, 1, false)] }), (31, { size := 1, bytes := 24, agg := false, zero := [.sl []], kind := .slice 65 }), (41, { size := 9, bytes := 96, agg := true, zero := [.sc (.int .i64 0), .sc (.int .i64 0), .sc (.int .i64 0), .sc (.int .i64 0), .sc (.int .i64 0), .sc (.int .i64 0), .sc (.string "".toByteArray), .sl [], .sc (.int .i64 0)], kind := .struct [(0, 1, false), (1, 6, true), (7, 1, false), (8, 1, false)] }), (65, { size := 8, bytes := 72, agg := true, zero := [.sc (.int .i64 0), .sc (.int .i64 0), .sc (.int .i64 0), .sc (.int .i64 0), .sc (.int .i64 0), .sc (.int .i64 0), .sc (.string "".toByteArray), .sc (.int .i64 0)], kind := .struct [(0, 1, false), (1, 6, true), (7, 1, false)] })]
noncomputable def C_r15_Same : Cfg := mkC ty_r15_Same [] [(21, M_r05_Same), (36, M_r13_Events), (17, M_r13_Same)] [21, 36, 17] [] [] [] []
theorem E_r15_Same : Env1 Go.Proofs.Try.prog C_r15_Same := mkC_ok (by kernel_rfl) (⟨⟨en_r05_Same, cc_r05_Same⟩, ⟨⟨en_r13_Events, cc_r13_Events⟩, ⟨⟨en_r13_Same, cc_r13_Same⟩, trivial⟩⟩⟩) (by kernel_rfl)
theorem C_r15_Same_ty : (C_r15_Same).ty = ty_r15_Same := rfl
theorem C_r15_Same_eqs : (C_r15_Same).eqs = [] := rfl
theorem C_r15_Same_call : (C_r15_Same).call = fun f => (([(21, M_r05_Same), (36, M_r13_Events), (17, M_r13_Same)] : List (Nat × (List DA → Option (List RV)))).lookup f).getD fun _ => none := rfl
theorem C_r15_Same_calls : (C_r15_Same).calls = [21, 36, 17] := rfl
theorem C_r15_Same_scal : (C_r15_Same).scal = [21, 36, 17] := rfl
theorem C_r15_Same_owns : (C_r15_Same).owns = [] := rfl
theorem C_r15_Same_vars : (C_r15_Same).vars = [] := rfl
theorem C_r15_Same_ores : (C_r15_Same).ores = [] := rfl
theorem C_r15_Same_flags : (C_r15_Same).flags = [] := rfl
theorem C_r15_Same_pins : (C_r15_Same).pins = [] := rfl
theorem C_r15_Same_inls : (C_r15_Same).inls = [] := rfl
def T_r15_Same : List (Nat × LoopA) := []
set_option maxHeartbeats 20000000 in
set_option maxRecDepth 100000 in
noncomputable def pk_r15_Same : { F : Plan → Plan → Option (Bool) // CallC Go.Proofs.Try.prog 13 (con2 (eT cePlan) (eT cePlan) (fun x0 x1 => (F x0 x1).map (res1 rB).enc)) } :=
  ⟨_, cc2 E_r15_Same Go.Proofs.Try.func13 rfl rfl (T := T_r15_Same) (G := []) (r := (res1 rB)) fun x0 x1 => by
    unfold Wf
    simp (maxSteps := 10000000) (implicitDefEqProofs := false) [-evOps, -evOne, -evOp, -evIndexAddr, -evIndex, -evPick, -binV, -evLoad, -evStore, -loadC, -callV, -nilC, -storeC, -toDVs, -toDAs, -resRs, List.lookup, List.replicate, List.range_succ, ty_r15_Same, C_r15_Same_ty, C_r15_Same_eqs, C_r15_Same_call, C_r15_Same_calls, C_r15_Same_scal, C_r15_Same_owns, C_r15_Same_vars, C_r15_Same_ores, C_r15_Same_flags, C_r15_Same_pins, C_r15_Same_inls, T_r15_Same, Go.Proofs.Try.f13, M_r05_Same, M_r13_Events, M_r13_Same, iC, uC, bC, sC, Acc.c, Event.c, Plan.c, Result.c, Tx.c]
    try rfl⟩
noncomputable def F_r15_Same : Plan → Plan → Option (Bool) := pk_r15_Same.1
noncomputable def M_r15_Same : List DA → Option (List RV) := con2 (eT cePlan) (eT cePlan) (fun x0 x1 => (F_r15_Same x0 x1).map (res1 rB).enc)
theorem cc_r15_Same : CallC Go.Proofs.Try.prog 13 M_r15_Same := pk_r15_Same.2

end Go.Vm

/- What Go functions come to, as Lean functions: each with its contract. -/
set_option linter.unusedVariables false
set_option linter.unusedSimpArgs false
namespace Go.Vm
open Go Go.RowKit

/-! ### hopper/codec.Number -/
theorem en_codec_Number : Enters Go.Proofs.Try.prog 77 := ⟨_, Go.Proofs.Try.func77, rfl, rfl⟩
def ty_codec_Number : List (Nat × TI) := [(3, { size := 1, bytes := 8, agg := false, zero := [.sc (.int .i64 0)], kind := .int .i64 }), (116, { size := 9, bytes := 9, agg := true, zero := [.sc (.int .u8 0), .sc (.int .u8 0), .sc (.int .u8 0), .sc (.int .u8 0), .sc (.int .u8 0), .sc (.int .u8 0), .sc (.int .u8 0), .sc (.int .u8 0), .sc (.int .u8 0)], kind := .array 9 5 }), (5, { size := 1, bytes := 1, agg := false, zero := [.sc (.int .u8 0)], kind := .int .u8 }), (105, { size := 1, bytes := 24, agg := false, zero := [.sl []], kind := .slice 5 }), (9, { size := 1, bytes := 16, agg := false, zero := [.sc (.string "".toByteArray)], kind := .str })]
noncomputable def C_codec_Number : Cfg := mkC ty_codec_Number [] [] [] [] [0,3,4] [] []
theorem E_codec_Number : Env1 Go.Proofs.Try.prog C_codec_Number := mkC_ok (by kernel_rfl) trivial (by kernel_rfl)
theorem C_codec_Number_ty : (C_codec_Number).ty = ty_codec_Number := rfl
theorem C_codec_Number_eqs : (C_codec_Number).eqs = [] := rfl
theorem C_codec_Number_call : (C_codec_Number).call = fun f => (([] : List (Nat × (List DA → Option (List RV)))).lookup f).getD fun _ => none := rfl
theorem C_codec_Number_calls : (C_codec_Number).calls = [] := rfl
theorem C_codec_Number_scal : (C_codec_Number).scal = [] := rfl
theorem C_codec_Number_owns : (C_codec_Number).owns = [] := rfl
theorem C_codec_Number_vars : (C_codec_Number).vars = [0,3,4] := rfl
theorem C_codec_Number_ores : (C_codec_Number).ores = [] := rfl
theorem C_codec_Number_flags : (C_codec_Number).flags = [] := rfl
theorem C_codec_Number_pins : (C_codec_Number).pins = [] := rfl
theorem C_codec_Number_inls : (C_codec_Number).inls = [] := rfl
def T_codec_Number : List (Nat × LoopA) := [(0, .un)]
set_option maxHeartbeats 20000000 in
set_option maxRecDepth 100000 in
noncomputable def pk_codec_Number : { F : Int → Option (ByteArray) // CallC Go.Proofs.Try.prog 77 (con1 eInt (fun x0 => (F x0).map (res1 rS).enc)) } :=
  ⟨_, cc1 E_codec_Number Go.Proofs.Try.func77 rfl rfl (T := T_codec_Number) (G := []) (r := (res1 rS)) fun x0 => by
    unfold Wf
    simp (maxSteps := 10000000) (implicitDefEqProofs := false) [-evOps, -evOne, -evOp, -evIndexAddr, -evIndex, -evPick, -binV, -evLoad, -evStore, -loadC, -callV, -nilC, -storeC, -toDVs, -toDAs, -resRs, List.lookup, List.replicate, List.range_succ, ty_codec_Number, C_codec_Number_ty, C_codec_Number_eqs, C_codec_Number_call, C_codec_Number_calls, C_codec_Number_scal, C_codec_Number_owns, C_codec_Number_vars, C_codec_Number_ores, C_codec_Number_flags, C_codec_Number_pins, C_codec_Number_inls, T_codec_Number, Go.Proofs.Try.f77, iC, uC, bC, sC, wrap64]
    try rfl⟩
noncomputable def F_codec_Number : Int → Option (ByteArray) := pk_codec_Number.1
noncomputable def M_codec_Number : List DA → Option (List RV) := con1 eInt (fun x0 => (F_codec_Number x0).map (res1 rS).enc)
theorem cc_codec_Number : CallC Go.Proofs.Try.prog 77 M_codec_Number := pk_codec_Number.2
/-! ### hopper/codec.TakeNumber -/
theorem en_codec_TakeNumber : Enters Go.Proofs.Try.prog 56 := ⟨_, Go.Proofs.Try.func56, rfl, rfl⟩
def ty_codec_TakeNumber : List (Nat × TI) := [(9, { size := 1, bytes := 16, agg := false, zero := [.sc (.string "".toByteArray)], kind := .str }), (3, { size := 1, bytes := 8, agg := false, zero := [.sc (.int .i64 0)], kind := .int .i64 }), (105, { size := 1, bytes := 24, agg := false, zero := [.sl []], kind := .slice 5 }), (5, { size := 1, bytes := 1, agg := false, zero := [.sc (.int .u8 0)], kind := .int .u8 })]
noncomputable def C_codec_TakeNumber : Cfg := mkC ty_codec_TakeNumber [] [(75, M_codec_cut), (76, M_codec_value), (77, M_codec_Number)] [76, 77] [] [] [] [(6, [true, true, true, true, true, true, true, true, true, true, true, true, true, true, true, true, true, true, true, true, true])]
theorem E_codec_TakeNumber : Env1 Go.Proofs.Try.prog C_codec_TakeNumber := mkC_ok (by kernel_rfl) (⟨⟨en_codec_cut, cc_codec_cut⟩, ⟨⟨en_codec_value, cc_codec_value⟩, ⟨⟨en_codec_Number, cc_codec_Number⟩, trivial⟩⟩⟩) (by kernel_rfl)
theorem C_codec_TakeNumber_ty : (C_codec_TakeNumber).ty = ty_codec_TakeNumber := rfl
theorem C_codec_TakeNumber_eqs : (C_codec_TakeNumber).eqs = [] := rfl
theorem C_codec_TakeNumber_call : (C_codec_TakeNumber).call = fun f => (([(75, M_codec_cut), (76, M_codec_value), (77, M_codec_Number)] : List (Nat × (List DA → Option (List RV)))).lookup f).getD fun _ => none := rfl
theorem C_codec_TakeNumber_calls : (C_codec_TakeNumber).calls = [75, 76, 77] := rfl
theorem C_codec_TakeNumber_scal : (C_codec_TakeNumber).scal = [76, 77] := rfl
theorem C_codec_TakeNumber_owns : (C_codec_TakeNumber).owns = [] := rfl
theorem C_codec_TakeNumber_vars : (C_codec_TakeNumber).vars = [] := rfl
theorem C_codec_TakeNumber_ores : (C_codec_TakeNumber).ores = [] := rfl
theorem C_codec_TakeNumber_flags : (C_codec_TakeNumber).flags = [(6, [true, true, true, true, true, true, true, true, true, true, true, true, true, true, true, true, true, true, true, true, true])] := rfl
theorem C_codec_TakeNumber_pins : (C_codec_TakeNumber).pins = [] := rfl
theorem C_codec_TakeNumber_inls : (C_codec_TakeNumber).inls = [] := rfl
def T_codec_TakeNumber : List (Nat × LoopA) := []
set_option maxHeartbeats 20000000 in
set_option maxRecDepth 100000 in
noncomputable def pk_codec_TakeNumber : { F : ByteArray → Int → Option (Int × ByteArray × Bool) // CallC Go.Proofs.Try.prog 56 (con2 eStr eInt (fun x0 x1 => (F x0 x1).map (res3 rI rS rB).enc)) } :=
  ⟨_, cc2 E_codec_TakeNumber Go.Proofs.Try.func56 rfl rfl (T := T_codec_TakeNumber) (G := []) (r := (res3 rI rS rB)) fun x0 x1 => by
    unfold Wf
    simp (maxSteps := 10000000) (implicitDefEqProofs := false) [-evOps, -evOne, -evOp, -evIndexAddr, -evIndex, -evPick, -binV, -evLoad, -evStore, -loadC, -callV, -nilC, -storeC, -toDVs, -toDAs, -resRs, List.lookup, List.replicate, List.range_succ, ty_codec_TakeNumber, C_codec_TakeNumber_ty, C_codec_TakeNumber_eqs, C_codec_TakeNumber_call, C_codec_TakeNumber_calls, C_codec_TakeNumber_scal, C_codec_TakeNumber_owns, C_codec_TakeNumber_vars, C_codec_TakeNumber_ores, C_codec_TakeNumber_flags, C_codec_TakeNumber_pins, C_codec_TakeNumber_inls, T_codec_TakeNumber, Go.Proofs.Try.f56, M_codec_cut, M_codec_value, M_codec_Number, iC, uC, bC, sC]
    try rfl⟩
noncomputable def F_codec_TakeNumber : ByteArray → Int → Option (Int × ByteArray × Bool) := pk_codec_TakeNumber.1
noncomputable def M_codec_TakeNumber : List DA → Option (List RV) := con2 eStr eInt (fun x0 x1 => (F_codec_TakeNumber x0 x1).map (res3 rI rS rB).enc)
theorem cc_codec_TakeNumber : CallC Go.Proofs.Try.prog 56 M_codec_TakeNumber := pk_codec_TakeNumber.2
/-! ### hopper/txn.Decode -/
theorem en_txn_Decode : Enters Go.Proofs.Try.prog 34 := ⟨_, Go.Proofs.Try.func34, rfl, rfl⟩
def ty_txn_Decode : List (Nat × TI) := [(34, { size := 6, bytes := 56, agg := true, zero := [.sc (.int .i64 0), .sc (.int .i64 0), .sc (.int .i64 0), .sc (.int .i64 0), .sc (.int .i64 0), .sc (.string "".toByteArray)], kind := .struct [(0, 1, false), (1, 1, false), (2, 1, false), (3, 1, false), (4, 1, false), (5, 1, false)] }), (9, { size := 1, bytes := 16, agg := false, zero := [.sc (.string "".toByteArray)], kind := .str }), (95, { size := 5, bytes := 40, agg := true, zero := [.sc (.pointer none), .sc (.pointer none), .sc (.pointer none), .sc (.pointer none), .sc (.pointer none)], kind := .array 5 94 }), (3, { size := 1, bytes := 8, agg := false, zero := [.sc (.int .i64 0)], kind := .int .i64 }), (94, { size := 1, bytes := 8, agg := false, zero := [.sc (.pointer none)], kind := .ptr 3 })]
noncomputable def C_txn_Decode : Cfg := mkC ty_txn_Decode [] [(55, M_str_CutPrefix), (56, M_codec_TakeNumber), (57, M_codec_TakeText), (58, M_txn_Check)] [55, 56, 57, 58] [] [2,4,6,22,23] [] []
theorem E_txn_Decode : Env1 Go.Proofs.Try.prog C_txn_Decode := mkC_ok (by kernel_rfl) (⟨⟨en_str_CutPrefix, cc_str_CutPrefix⟩, ⟨⟨en_codec_TakeNumber, cc_codec_TakeNumber⟩, ⟨⟨en_codec_TakeText, cc_codec_TakeText⟩, ⟨⟨en_txn_Check, cc_txn_Check⟩, trivial⟩⟩⟩⟩) (by kernel_rfl)
theorem C_txn_Decode_ty : (C_txn_Decode).ty = ty_txn_Decode := rfl
theorem C_txn_Decode_eqs : (C_txn_Decode).eqs = [] := rfl
theorem C_txn_Decode_call : (C_txn_Decode).call = fun f => (([(55, M_str_CutPrefix), (56, M_codec_TakeNumber), (57, M_codec_TakeText), (58, M_txn_Check)] : List (Nat × (List DA → Option (List RV)))).lookup f).getD fun _ => none := rfl
theorem C_txn_Decode_calls : (C_txn_Decode).calls = [55, 56, 57, 58] := rfl
theorem C_txn_Decode_scal : (C_txn_Decode).scal = [55, 56, 57, 58] := rfl
theorem C_txn_Decode_owns : (C_txn_Decode).owns = [] := rfl
theorem C_txn_Decode_vars : (C_txn_Decode).vars = [2,4,6,22,23] := rfl
theorem C_txn_Decode_ores : (C_txn_Decode).ores = [] := rfl
theorem C_txn_Decode_flags : (C_txn_Decode).flags = [] := rfl
theorem C_txn_Decode_pins : (C_txn_Decode).pins = [] := rfl
theorem C_txn_Decode_inls : (C_txn_Decode).inls = [] := rfl
def T_txn_Decode : List (Nat × LoopA) := [(0, .un)]
set_option maxHeartbeats 20000000 in
set_option maxRecDepth 100000 in
noncomputable def pk_txn_Decode : { F : ByteArray → Option (Tx × Bool) // CallC Go.Proofs.Try.prog 34 (con1 eStr (fun x0 => (F x0).map (res2 (rAgg ceTx) rB).enc)) } :=
  ⟨_, cc1 E_txn_Decode Go.Proofs.Try.func34 rfl rfl (T := T_txn_Decode) (G := []) (r := (res2 (rAgg ceTx) rB)) fun x0 => by
    unfold Wf
    simp (maxSteps := 10000000) (implicitDefEqProofs := false) [-evOps, -evOne, -evOp, -evIndexAddr, -evIndex, -evPick, -binV, -evLoad, -evStore, -loadC, -callV, -nilC, -storeC, -toDVs, -toDAs, -resRs, List.lookup, List.replicate, List.range_succ, ty_txn_Decode, C_txn_Decode_ty, C_txn_Decode_eqs, C_txn_Decode_call, C_txn_Decode_calls, C_txn_Decode_scal, C_txn_Decode_owns, C_txn_Decode_vars, C_txn_Decode_ores, C_txn_Decode_flags, C_txn_Decode_pins, C_txn_Decode_inls, T_txn_Decode, Go.Proofs.Try.f34, M_str_CutPrefix, M_codec_TakeNumber, M_codec_TakeText, M_txn_Check, iC, uC, bC, sC, Tx.c, wrap64]
    try rfl⟩
noncomputable def F_txn_Decode : ByteArray → Option (Tx × Bool) := pk_txn_Decode.1
noncomputable def M_txn_Decode : List DA → Option (List RV) := con1 eStr (fun x0 => (F_txn_Decode x0).map (res2 (rAgg ceTx) rB).enc)
theorem cc_txn_Decode : CallC Go.Proofs.Try.prog 34 M_txn_Decode := pk_txn_Decode.2

end Go.Vm
