/- What Go functions come to, as Lean functions: each with its contract. -/
import Derived.Test.YtmdccbecmilljaaVd
import Derived.Test.YtmdccbecmilljaaProg

set_option linter.unusedVariables false
set_option linter.unusedSimpArgs false
namespace Go.Vm
open Go Go.RowKit

/-! ### hopper/hopperref05.Find -/
theorem en_r05_Find : Enters Go.Proofs.Try.prog 25 := ⟨_, Go.Proofs.Try.func25, rfl, rfl⟩
def ty_r05_Find : List (Nat × TI) := [(26, { size := 3, bytes := 40, agg := true, zero := [.sc (.int .i64 0), .sc (.int .i64 0), .sl []], kind := .struct [(0, 1, false), (1, 1, false), (2, 1, false)] }), (34, { size := 6, bytes := 56, agg := true, zero := [.sc (.int .i64 0), .sc (.int .i64 0), .sc (.int .i64 0), .sc (.int .i64 0), .sc (.int .i64 0), .sc (.string "".toByteArray)], kind := .struct [(0, 1, false), (1, 1, false), (2, 1, false), (3, 1, false), (4, 1, false), (5, 1, false)] }), (24, { size := 1, bytes := 24, agg := false, zero := [.sl []], kind := .slice 34 }), (3, { size := 1, bytes := 8, agg := false, zero := [.sc (.int .i64 0)], kind := .int .i64 })]
noncomputable def C_r05_Find : Cfg := mkC ty_r05_Find [] [] [] [] [1,2,4,6] [] []
theorem E_r05_Find : Env1 Go.Proofs.Try.prog C_r05_Find := mkC_ok (by kernel_rfl) trivial (by kernel_rfl)
theorem C_r05_Find_ty : (C_r05_Find).ty = ty_r05_Find := rfl
theorem C_r05_Find_eqs : (C_r05_Find).eqs = [] := rfl
theorem C_r05_Find_call : (C_r05_Find).call = fun f => (([] : List (Nat × (List DA → Option (List RV)))).lookup f).getD fun _ => none := rfl
theorem C_r05_Find_calls : (C_r05_Find).calls = [] := rfl
theorem C_r05_Find_scal : (C_r05_Find).scal = [] := rfl
theorem C_r05_Find_owns : (C_r05_Find).owns = [] := rfl
theorem C_r05_Find_vars : (C_r05_Find).vars = [1,2,4,6] := rfl
theorem C_r05_Find_ores : (C_r05_Find).ores = [] := rfl
theorem C_r05_Find_flags : (C_r05_Find).flags = [] := rfl
theorem C_r05_Find_pins : (C_r05_Find).pins = [] := rfl
theorem C_r05_Find_inls : (C_r05_Find).inls = [] := rfl
structure L_r05_Find_0 where
  nonce : Int
  i : Int
  a_ : Acc
  v4 : Tx
def an_r05_Find_0 : Ann := mkAnn (σ := L_r05_Find_0) (lSkip vUnk <| lCons (vOne cI) <| lSkip (vOne (cPtr 0 0 0)) <| lSkip vUnk <| lSkip (vOne (cPtr 1 0 0)) <| lSkip vUnk <| lCons (vOne cI) <| lSkip vUnk <| lSkip vUnk <| lSkip vUnk <| lSkip vUnk <| lSkip vUnk <| lSkip vUnk <| lSkip vUnk <| lSkip vUnk <| lSkip vUnk <| lSkip vUnk <| lSkip vUnk <| lSkip vUnk <| lSkip vUnk <| lSkip vUnk <| lSkip vUnk <| lSkip vUnk <| lSkip vUnk <| lSkip vUnk <| lSkip vUnk <| lSkip vUnk <| lSkip vUnk <|  lNil) (lCons (oBox 26 (cStr ceAcc)) <| lCons (oBox 34 (cStr ceTx)) <|  lNil)
  (fun a b => L_r05_Find_0.mk (a.1) (a.2.1) (b.1) (b.2.1)) (fun s => (s.nonce, s.i, ())) (fun s => (s.a_, s.v4, ())) (fun a b => true) (fun _ _ _ => ⟨rfl, rfl⟩)
theorem an_r05_Find_0_st (s : an_r05_Find_0.σ) : an_r05_Find_0.st s = ([.unk, .v (.one (.d (.sc (.int .i64 (L_r05_Find_0.nonce s))))), .v (.one (.ptr 0 0 0)), .unk, .v (.one (.ptr 1 0 0)), .unk, .v (.one (.d (.sc (.int .i64 (L_r05_Find_0.i s))))), .unk, .unk, .unk, .unk, .unk, .unk, .unk, .unk, .unk, .unk, .unk, .unk, .unk, .unk, .unk, .unk, .unk, .unk, .unk, .unk, .unk], [.box 26 (ddv (Acc.c (L_r05_Find_0.a_ s))), .box 34 (ddv (Tx.c (L_r05_Find_0.v4 s)))]) := rfl
set_option maxHeartbeats 4000000 in
set_option maxRecDepth 100000 in
theorem an_r05_Find_0_un {β : Type} (nonce : Int) (i : Int) (p_a_ : List CV) (p_v4 : List CV) (f_ : an_r05_Find_0.σ → Option β) : (an_r05_Find_0.un [.unk, .v (.one (.d (.sc (.int .i64 nonce)))), .v (.one (.ptr 0 0 0)), .unk, .v (.one (.ptr 1 0 0)), .unk, .v (.one (.d (.sc (.int .i64 i)))), .unk, .unk, .unk, .unk, .unk, .unk, .unk, .unk, .unk, .unk, .unk, .unk, .unk, .unk, .unk, .unk, .unk, .unk, .unk, .unk, .unk] [.box 26 p_a_, .box 34 p_v4]).bind f_ = ((allD p_a_).bind dAcc).bind fun a_ => ((allD p_v4).bind dTx).bind fun v4 => f_ (L_r05_Find_0.mk nonce i a_ v4) :=
  (mkAnn_un (σ := L_r05_Find_0) _ _ _ _ _ _ _ _ _ f_).trans (by simp [Option.bind_assoc])
def T_r05_Find : List (Nat × LoopA) := [(0, .ty an_r05_Find_0)]
set_option maxHeartbeats 20000000 in
set_option maxRecDepth 100000 in
noncomputable def pk_r05_Find : { F : Acc → Int → Option (Tx × Bool) // CallC Go.Proofs.Try.prog 25 (con2 (eT ceAcc) eInt (fun x0 x1 => (F x0 x1).map (res2 (rAgg ceTx) rB).enc)) } :=
  ⟨_, cc2 E_r05_Find Go.Proofs.Try.func25 rfl rfl (T := T_r05_Find) (G := []) (r := (res2 (rAgg ceTx) rB)) fun x0 x1 => by
    unfold Wf
    simp (maxSteps := 10000000) (implicitDefEqProofs := false) [-evOps, -evOne, -evOp, -evIndexAddr, -evIndex, -evPick, -binV, -evLoad, -evStore, -loadC, -callV, -nilC, -storeC, -toDVs, -toDAs, -resRs, List.lookup, List.replicate, List.range_succ, ty_r05_Find, C_r05_Find_ty, C_r05_Find_eqs, C_r05_Find_call, C_r05_Find_calls, C_r05_Find_scal, C_r05_Find_owns, C_r05_Find_vars, C_r05_Find_ores, C_r05_Find_flags, C_r05_Find_pins, C_r05_Find_inls, T_r05_Find, Go.Proofs.Try.f25, an_r05_Find_0_st, an_r05_Find_0_un, iC, uC, bC, sC, Acc.c, Tx.c]
    try rfl⟩
noncomputable def F_r05_Find : Acc → Int → Option (Tx × Bool) := pk_r05_Find.1
noncomputable def M_r05_Find : List DA → Option (List RV) := con2 (eT ceAcc) eInt (fun x0 x1 => (F_r05_Find x0 x1).map (res2 (rAgg ceTx) rB).enc)
theorem cc_r05_Find : CallC Go.Proofs.Try.prog 25 M_r05_Find := pk_r05_Find.2
/-! ### hopper/queue.place -/
theorem en_queue_place : Enters Go.Proofs.Try.prog 61 := ⟨_, Go.Proofs.Try.func61, rfl, rfl⟩
def ty_queue_place : List (Nat × TI) := [(24, { size := 1, bytes := 24, agg := false, zero := [.sl []], kind := .slice 34 }), (3, { size := 1, bytes := 8, agg := false, zero := [.sc (.int .i64 0)], kind := .int .i64 }), (34, { size := 6, bytes := 56, agg := true, zero := [.sc (.int .i64 0), .sc (.int .i64 0), .sc (.int .i64 0), .sc (.int .i64 0), .sc (.int .i64 0), .sc (.string "".toByteArray)], kind := .struct [(0, 1, false), (1, 1, false), (2, 1, false), (3, 1, false), (4, 1, false), (5, 1, false)] })]
noncomputable def C_queue_place : Cfg := mkC ty_queue_place [] [] [] [] [0,1,6,7] [] []
theorem E_queue_place : Env1 Go.Proofs.Try.prog C_queue_place := mkC_ok (by kernel_rfl) trivial (by kernel_rfl)
theorem C_queue_place_ty : (C_queue_place).ty = ty_queue_place := rfl
theorem C_queue_place_eqs : (C_queue_place).eqs = [] := rfl
theorem C_queue_place_call : (C_queue_place).call = fun f => (([] : List (Nat × (List DA → Option (List RV)))).lookup f).getD fun _ => none := rfl
theorem C_queue_place_calls : (C_queue_place).calls = [] := rfl
theorem C_queue_place_scal : (C_queue_place).scal = [] := rfl
theorem C_queue_place_owns : (C_queue_place).owns = [] := rfl
theorem C_queue_place_vars : (C_queue_place).vars = [0,1,6,7] := rfl
theorem C_queue_place_ores : (C_queue_place).ores = [] := rfl
theorem C_queue_place_flags : (C_queue_place).flags = [] := rfl
theorem C_queue_place_pins : (C_queue_place).pins = [] := rfl
theorem C_queue_place_inls : (C_queue_place).inls = [] := rfl
structure L_queue_place_0 where
  l : List Tx
  n : Int
  pos : Int
  behind : Int
def an_queue_place_0 : Ann := mkAnn (σ := L_queue_place_0) (lCons (vOne (cSl ceTx)) <| lCons (vOne cI) <| lSkip vUnk <| lSkip vUnk <| lSkip vUnk <| lSkip vUnk <| lCons (vOne cI) <| lCons (vOne cI) <| lSkip vUnk <| lSkip vUnk <| lSkip vUnk <| lSkip vUnk <| lSkip vUnk <| lSkip vUnk <| lSkip vUnk <| lSkip vUnk <| lSkip vUnk <| lSkip vUnk <| lSkip vUnk <| lSkip vUnk <| lSkip vUnk <| lSkip vUnk <| lSkip vUnk <| lSkip vUnk <| lSkip vUnk <| lSkip vUnk <| lSkip vUnk <| lSkip vUnk <| lSkip vUnk <| lSkip vUnk <| lSkip vUnk <| lSkip vUnk <| lSkip vUnk <| lSkip vUnk <| lSkip vUnk <| lSkip vUnk <| lSkip vUnk <| lSkip vUnk <| lSkip vUnk <|  lNil) ( lNil)
  (fun a b => L_queue_place_0.mk (a.1) (a.2.1) (a.2.2.1) (a.2.2.2.1)) (fun s => (s.l, s.n, s.pos, s.behind, ())) (fun s => (())) (fun a b => true) (fun _ _ _ => ⟨rfl, rfl⟩)
theorem an_queue_place_0_st (s : an_queue_place_0.σ) : an_queue_place_0.st s = ([.v (.one (.d (.sl ((L_queue_place_0.l s).map Tx.c)))), .v (.one (.d (.sc (.int .i64 (L_queue_place_0.n s))))), .unk, .unk, .unk, .unk, .v (.one (.d (.sc (.int .i64 (L_queue_place_0.pos s))))), .v (.one (.d (.sc (.int .i64 (L_queue_place_0.behind s))))), .unk, .unk, .unk, .unk, .unk, .unk, .unk, .unk, .unk, .unk, .unk, .unk, .unk, .unk, .unk, .unk, .unk, .unk, .unk, .unk, .unk, .unk, .unk, .unk, .unk, .unk, .unk, .unk, .unk, .unk, .unk], []) := rfl
set_option maxHeartbeats 4000000 in
set_option maxRecDepth 100000 in
theorem an_queue_place_0_un {β : Type} (p_l : List (List DV)) (n : Int) (pos : Int) (behind : Int) (f_ : an_queue_place_0.σ → Option β) : (an_queue_place_0.un [.v (.one (.d (.sl p_l))), .v (.one (.d (.sc (.int .i64 n)))), .unk, .unk, .unk, .unk, .v (.one (.d (.sc (.int .i64 pos)))), .v (.one (.d (.sc (.int .i64 behind)))), .unk, .unk, .unk, .unk, .unk, .unk, .unk, .unk, .unk, .unk, .unk, .unk, .unk, .unk, .unk, .unk, .unk, .unk, .unk, .unk, .unk, .unk, .unk, .unk, .unk, .unk, .unk, .unk, .unk, .unk, .unk] []).bind f_ = (decL dTx p_l).bind fun l => f_ (L_queue_place_0.mk l n pos behind) :=
  (mkAnn_un (σ := L_queue_place_0) _ _ _ _ _ _ _ _ _ f_).trans (by simp [Option.bind_assoc])
def T_queue_place : List (Nat × LoopA) := []
set_option maxHeartbeats 20000000 in
set_option maxRecDepth 100000 in
noncomputable def pk_queue_place : { F : (List Tx) → Int → Option (Int × Bool) // CallC Go.Proofs.Try.prog 61 (con2 (eL ceTx) eInt (fun x0 x1 => (F x0 x1).map (res2 rI rB).enc)) } :=
  ⟨_, cc2 E_queue_place Go.Proofs.Try.func61 rfl rfl (T := T_queue_place) (G := [⟨0, 0, an_queue_place_0⟩]) (r := (res2 rI rB)) fun x0 x1 => by
    unfold Wf
    simp (maxSteps := 10000000) (implicitDefEqProofs := false) [-evOps, -evOne, -evOp, -evIndexAddr, -evIndex, -evPick, -binV, -evLoad, -evStore, -loadC, -callV, -nilC, -storeC, -toDVs, -toDAs, -resRs, List.lookup, List.replicate, List.range_succ, ty_queue_place, C_queue_place_ty, C_queue_place_eqs, C_queue_place_call, C_queue_place_calls, C_queue_place_scal, C_queue_place_owns, C_queue_place_vars, C_queue_place_ores, C_queue_place_flags, C_queue_place_pins, C_queue_place_inls, T_queue_place, Go.Proofs.Try.f61, an_queue_place_0_st, an_queue_place_0_un, iC, uC, bC, sC, Tx.c, splitL, findLabel]
    try rfl⟩
noncomputable def F_queue_place : (List Tx) → Int → Option (Int × Bool) := pk_queue_place.1
noncomputable def M_queue_place : List DA → Option (List RV) := con2 (eL ceTx) eInt (fun x0 x1 => (F_queue_place x0 x1).map (res2 rI rB).enc)
theorem cc_queue_place : CallC Go.Proofs.Try.prog 61 M_queue_place := pk_queue_place.2
/-! ### hopper/hopperref01.Slots -/
theorem en_r01_Slots : Enters Go.Proofs.Try.prog 66 := ⟨_, Go.Proofs.Try.func66, rfl, rfl⟩
def ty_r01_Slots : List (Nat × TI) := [(3, { size := 1, bytes := 8, agg := false, zero := [.sc (.int .i64 0)], kind := .int .i64 })]
noncomputable def C_r01_Slots : Cfg := mkC ty_r01_Slots [] [] [] [] [] [] []
theorem E_r01_Slots : Env1 Go.Proofs.Try.prog C_r01_Slots := mkC_ok (by kernel_rfl) trivial (by kernel_rfl)
theorem C_r01_Slots_ty : (C_r01_Slots).ty = ty_r01_Slots := rfl
theorem C_r01_Slots_eqs : (C_r01_Slots).eqs = [] := rfl
theorem C_r01_Slots_call : (C_r01_Slots).call = fun f => (([] : List (Nat × (List DA → Option (List RV)))).lookup f).getD fun _ => none := rfl
theorem C_r01_Slots_calls : (C_r01_Slots).calls = [] := rfl
theorem C_r01_Slots_scal : (C_r01_Slots).scal = [] := rfl
theorem C_r01_Slots_owns : (C_r01_Slots).owns = [] := rfl
theorem C_r01_Slots_vars : (C_r01_Slots).vars = [] := rfl
theorem C_r01_Slots_ores : (C_r01_Slots).ores = [] := rfl
theorem C_r01_Slots_flags : (C_r01_Slots).flags = [] := rfl
theorem C_r01_Slots_pins : (C_r01_Slots).pins = [] := rfl
theorem C_r01_Slots_inls : (C_r01_Slots).inls = [] := rfl
def T_r01_Slots : List (Nat × LoopA) := []
set_option maxHeartbeats 20000000 in
set_option maxRecDepth 100000 in
noncomputable def pk_r01_Slots : { F : Int → Option (Int) // CallC Go.Proofs.Try.prog 66 (con1 eInt (fun x0 => (F x0).map (res1 rI).enc)) } :=
  ⟨_, cc1 E_r01_Slots Go.Proofs.Try.func66 rfl rfl (T := T_r01_Slots) (G := []) (r := (res1 rI)) fun x0 => by
    unfold Wf
    simp (maxSteps := 10000000) (implicitDefEqProofs := false) [-evOps, -evOne, -evOp, -evIndexAddr, -evIndex, -evPick, -binV, -evLoad, -evStore, -loadC, -callV, -nilC, -storeC, -toDVs, -toDAs, -resRs, List.lookup, List.replicate, List.range_succ, ty_r01_Slots, C_r01_Slots_ty, C_r01_Slots_eqs, C_r01_Slots_call, C_r01_Slots_calls, C_r01_Slots_scal, C_r01_Slots_owns, C_r01_Slots_vars, C_r01_Slots_ores, C_r01_Slots_flags, C_r01_Slots_pins, C_r01_Slots_inls, T_r01_Slots, Go.Proofs.Try.f66, iC, uC, bC, sC]
    try rfl⟩
noncomputable def F_r01_Slots : Int → Option (Int) := pk_r01_Slots.1
noncomputable def M_r01_Slots : List DA → Option (List RV) := con1 eInt (fun x0 => (F_r01_Slots x0).map (res1 rI).enc)
theorem cc_r01_Slots : CallC Go.Proofs.Try.prog 66 M_r01_Slots := pk_r01_Slots.2
/-! ### hopper/hopperref01.Raise -/
theorem en_r01_Raise : Enters Go.Proofs.Try.prog 73 := ⟨_, Go.Proofs.Try.func73, rfl, rfl⟩
def ty_r01_Raise : List (Nat × TI) := [(3, { size := 1, bytes := 8, agg := false, zero := [.sc (.int .i64 0)], kind := .int .i64 })]
noncomputable def C_r01_Raise : Cfg := mkC ty_r01_Raise [] [] [] [] [] [] []
theorem E_r01_Raise : Env1 Go.Proofs.Try.prog C_r01_Raise := mkC_ok (by kernel_rfl) trivial (by kernel_rfl)
theorem C_r01_Raise_ty : (C_r01_Raise).ty = ty_r01_Raise := rfl
theorem C_r01_Raise_eqs : (C_r01_Raise).eqs = [] := rfl
theorem C_r01_Raise_call : (C_r01_Raise).call = fun f => (([] : List (Nat × (List DA → Option (List RV)))).lookup f).getD fun _ => none := rfl
theorem C_r01_Raise_calls : (C_r01_Raise).calls = [] := rfl
theorem C_r01_Raise_scal : (C_r01_Raise).scal = [] := rfl
theorem C_r01_Raise_owns : (C_r01_Raise).owns = [] := rfl
theorem C_r01_Raise_vars : (C_r01_Raise).vars = [] := rfl
theorem C_r01_Raise_ores : (C_r01_Raise).ores = [] := rfl
theorem C_r01_Raise_flags : (C_r01_Raise).flags = [] := rfl
theorem C_r01_Raise_pins : (C_r01_Raise).pins = [] := rfl
theorem C_r01_Raise_inls : (C_r01_Raise).inls = [] := rfl
def T_r01_Raise : List (Nat × LoopA) := []
set_option maxHeartbeats 20000000 in
set_option maxRecDepth 100000 in
noncomputable def pk_r01_Raise : { F : Int → Int → Option (Int × Bool) // CallC Go.Proofs.Try.prog 73 (con2 eInt eInt (fun x0 x1 => (F x0 x1).map (res2 rI rB).enc)) } :=
  ⟨_, cc2 E_r01_Raise Go.Proofs.Try.func73 rfl rfl (T := T_r01_Raise) (G := []) (r := (res2 rI rB)) fun x0 x1 => by
    unfold Wf
    simp (maxSteps := 10000000) (implicitDefEqProofs := false) [-evOps, -evOne, -evOp, -evIndexAddr, -evIndex, -evPick, -binV, -evLoad, -evStore, -loadC, -callV, -nilC, -storeC, -toDVs, -toDAs, -resRs, List.lookup, List.replicate, List.range_succ, ty_r01_Raise, C_r01_Raise_ty, C_r01_Raise_eqs, C_r01_Raise_call, C_r01_Raise_calls, C_r01_Raise_scal, C_r01_Raise_owns, C_r01_Raise_vars, C_r01_Raise_ores, C_r01_Raise_flags, C_r01_Raise_pins, C_r01_Raise_inls, T_r01_Raise, Go.Proofs.Try.f73, iC, uC, bC, sC]
    try rfl⟩
noncomputable def F_r01_Raise : Int → Int → Option (Int × Bool) := pk_r01_Raise.1
noncomputable def M_r01_Raise : List DA → Option (List RV) := con2 eInt eInt (fun x0 x1 => (F_r01_Raise x0 x1).map (res2 rI rB).enc)
theorem cc_r01_Raise : CallC Go.Proofs.Try.prog 73 M_r01_Raise := pk_r01_Raise.2
/-! ### hopper/hopperref04.Small -/
theorem en_r04_Small : Enters Go.Proofs.Try.prog 23 := ⟨_, Go.Proofs.Try.func23, rfl, rfl⟩
def ty_r04_Small : List (Nat × TI) := [(34, { size := 6, bytes := 56, agg := true, zero := [.sc (.int .i64 0), .sc (.int .i64 0), .sc (.int .i64 0), .sc (.int .i64 0), .sc (.int .i64 0), .sc (.string "".toByteArray)], kind := .struct [(0, 1, false), (1, 1, false), (2, 1, false), (3, 1, false), (4, 1, false), (5, 1, false)] }), (9, { size := 1, bytes := 16, agg := false, zero := [.sc (.string "".toByteArray)], kind := .str }), (3, { size := 1, bytes := 8, agg := false, zero := [.sc (.int .i64 0)], kind := .int .i64 })]
noncomputable def C_r04_Small : Cfg := mkC ty_r04_Small [] [] [] [] [] [] []
theorem E_r04_Small : Env1 Go.Proofs.Try.prog C_r04_Small := mkC_ok (by kernel_rfl) trivial (by kernel_rfl)
theorem C_r04_Small_ty : (C_r04_Small).ty = ty_r04_Small := rfl
theorem C_r04_Small_eqs : (C_r04_Small).eqs = [] := rfl
theorem C_r04_Small_call : (C_r04_Small).call = fun f => (([] : List (Nat × (List DA → Option (List RV)))).lookup f).getD fun _ => none := rfl
theorem C_r04_Small_calls : (C_r04_Small).calls = [] := rfl
theorem C_r04_Small_scal : (C_r04_Small).scal = [] := rfl
theorem C_r04_Small_owns : (C_r04_Small).owns = [] := rfl
theorem C_r04_Small_vars : (C_r04_Small).vars = [] := rfl
theorem C_r04_Small_ores : (C_r04_Small).ores = [] := rfl
theorem C_r04_Small_flags : (C_r04_Small).flags = [] := rfl
theorem C_r04_Small_pins : (C_r04_Small).pins = [] := rfl
theorem C_r04_Small_inls : (C_r04_Small).inls = [] := rfl
def T_r04_Small : List (Nat × LoopA) := []
set_option maxHeartbeats 20000000 in
set_option maxRecDepth 100000 in
noncomputable def pk_r04_Small : { F : Tx → Option (Bool) // CallC Go.Proofs.Try.prog 23 (con1 (eT ceTx) (fun x0 => (F x0).map (res1 rB).enc)) } :=
  ⟨_, cc1 E_r04_Small Go.Proofs.Try.func23 rfl rfl (T := T_r04_Small) (G := []) (r := (res1 rB)) fun x0 => by
    unfold Wf
    simp (maxSteps := 10000000) (implicitDefEqProofs := false) [-evOps, -evOne, -evOp, -evIndexAddr, -evIndex, -evPick, -binV, -evLoad, -evStore, -loadC, -callV, -nilC, -storeC, -toDVs, -toDAs, -resRs, List.lookup, List.replicate, List.range_succ, ty_r04_Small, C_r04_Small_ty, C_r04_Small_eqs, C_r04_Small_call, C_r04_Small_calls, C_r04_Small_scal, C_r04_Small_owns, C_r04_Small_vars, C_r04_Small_ores, C_r04_Small_flags, C_r04_Small_pins, C_r04_Small_inls, T_r04_Small, Go.Proofs.Try.f23, iC, uC, bC, sC, Tx.c]
    try rfl⟩
noncomputable def F_r04_Small : Tx → Option (Bool) := pk_r04_Small.1
noncomputable def M_r04_Small : List DA → Option (List RV) := con1 (eT ceTx) (fun x0 => (F_r04_Small x0).map (res1 rB).enc)
theorem cc_r04_Small : CallC Go.Proofs.Try.prog 23 M_r04_Small := pk_r04_Small.2
/-! ### hopper/hopperref04.Few -/
theorem en_r04_Few : Enters Go.Proofs.Try.prog 26 := ⟨_, Go.Proofs.Try.func26, rfl, rfl⟩
def ty_r04_Few : List (Nat × TI) := [(24, { size := 1, bytes := 24, agg := false, zero := [.sl []], kind := .slice 34 }), (3, { size := 1, bytes := 8, agg := false, zero := [.sc (.int .i64 0)], kind := .int .i64 }), (34, { size := 6, bytes := 56, agg := true, zero := [.sc (.int .i64 0), .sc (.int .i64 0), .sc (.int .i64 0), .sc (.int .i64 0), .sc (.int .i64 0), .sc (.string "".toByteArray)], kind := .struct [(0, 1, false), (1, 1, false), (2, 1, false), (3, 1, false), (4, 1, false), (5, 1, false)] })]
noncomputable def C_r04_Few : Cfg := mkC ty_r04_Few [] [(23, M_r04_Small)] [23] [] [0,1,5] [] []
theorem E_r04_Few : Env1 Go.Proofs.Try.prog C_r04_Few := mkC_ok (by kernel_rfl) (⟨⟨en_r04_Small, cc_r04_Small⟩, trivial⟩) (by kernel_rfl)
theorem C_r04_Few_ty : (C_r04_Few).ty = ty_r04_Few := rfl
theorem C_r04_Few_eqs : (C_r04_Few).eqs = [] := rfl
theorem C_r04_Few_call : (C_r04_Few).call = fun f => (([(23, M_r04_Small)] : List (Nat × (List DA → Option (List RV)))).lookup f).getD fun _ => none := rfl
theorem C_r04_Few_calls : (C_r04_Few).calls = [23] := rfl
theorem C_r04_Few_scal : (C_r04_Few).scal = [23] := rfl
theorem C_r04_Few_owns : (C_r04_Few).owns = [] := rfl
theorem C_r04_Few_vars : (C_r04_Few).vars = [0,1,5] := rfl
theorem C_r04_Few_ores : (C_r04_Few).ores = [] := rfl
theorem C_r04_Few_flags : (C_r04_Few).flags = [] := rfl
theorem C_r04_Few_pins : (C_r04_Few).pins = [] := rfl
theorem C_r04_Few_inls : (C_r04_Few).inls = [] := rfl
structure L_r04_Few_0 where
  l : List Tx
  most : Int
  i : Int
def an_r04_Few_0 : Ann := mkAnn (σ := L_r04_Few_0) (lCons (vOne (cSl ceTx)) <| lCons (vOne cI) <| lSkip vUnk <| lSkip vUnk <| lSkip vUnk <| lCons (vOne cI) <| lSkip vUnk <| lSkip vUnk <| lSkip vUnk <| lSkip vUnk <| lSkip vUnk <| lSkip vUnk <| lSkip vUnk <| lSkip vUnk <| lSkip vUnk <| lSkip vUnk <| lSkip vUnk <| lSkip vUnk <| lSkip vUnk <| lSkip vUnk <| lSkip vUnk <| lSkip vUnk <|  lNil) ( lNil)
  (fun a b => L_r04_Few_0.mk (a.1) (a.2.1) (a.2.2.1)) (fun s => (s.l, s.most, s.i, ())) (fun s => (())) (fun a b => true) (fun _ _ _ => ⟨rfl, rfl⟩)
theorem an_r04_Few_0_st (s : an_r04_Few_0.σ) : an_r04_Few_0.st s = ([.v (.one (.d (.sl ((L_r04_Few_0.l s).map Tx.c)))), .v (.one (.d (.sc (.int .i64 (L_r04_Few_0.most s))))), .unk, .unk, .unk, .v (.one (.d (.sc (.int .i64 (L_r04_Few_0.i s))))), .unk, .unk, .unk, .unk, .unk, .unk, .unk, .unk, .unk, .unk, .unk, .unk, .unk, .unk, .unk, .unk], []) := rfl
set_option maxHeartbeats 4000000 in
set_option maxRecDepth 100000 in
theorem an_r04_Few_0_un {β : Type} (p_l : List (List DV)) (most : Int) (i : Int) (f_ : an_r04_Few_0.σ → Option β) : (an_r04_Few_0.un [.v (.one (.d (.sl p_l))), .v (.one (.d (.sc (.int .i64 most)))), .unk, .unk, .unk, .v (.one (.d (.sc (.int .i64 i)))), .unk, .unk, .unk, .unk, .unk, .unk, .unk, .unk, .unk, .unk, .unk, .unk, .unk, .unk, .unk, .unk] []).bind f_ = (decL dTx p_l).bind fun l => f_ (L_r04_Few_0.mk l most i) :=
  (mkAnn_un (σ := L_r04_Few_0) _ _ _ _ _ _ _ _ _ f_).trans (by simp [Option.bind_assoc])
def T_r04_Few : List (Nat × LoopA) := [(0, .ty an_r04_Few_0)]
set_option maxHeartbeats 20000000 in
set_option maxRecDepth 100000 in
noncomputable def pk_r04_Few : { F : (List Tx) → Int → Option (Bool) // CallC Go.Proofs.Try.prog 26 (con2 (eL ceTx) eInt (fun x0 x1 => (F x0 x1).map (res1 rB).enc)) } :=
  ⟨_, cc2 E_r04_Few Go.Proofs.Try.func26 rfl rfl (T := T_r04_Few) (G := []) (r := (res1 rB)) fun x0 x1 => by
    unfold Wf
    simp (maxSteps := 10000000) (implicitDefEqProofs := false) [-evOps, -evOne, -evOp, -evIndexAddr, -evIndex, -evPick, -binV, -evLoad, -evStore, -loadC, -callV, -nilC, -storeC, -toDVs, -toDAs, -resRs, List.lookup, List.replicate, List.range_succ, ty_r04_Few, C_r04_Few_ty, C_r04_Few_eqs, C_r04_Few_call, C_r04_Few_calls, C_r04_Few_scal, C_r04_Few_owns, C_r04_Few_vars, C_r04_Few_ores, C_r04_Few_flags, C_r04_Few_pins, C_r04_Few_inls, T_r04_Few, Go.Proofs.Try.f26, M_r04_Small, an_r04_Few_0_st, an_r04_Few_0_un, iC, uC, bC, sC, Tx.c]
    try rfl⟩
noncomputable def F_r04_Few : (List Tx) → Int → Option (Bool) := pk_r04_Few.1
noncomputable def M_r04_Few : List DA → Option (List RV) := con2 (eL ceTx) eInt (fun x0 x1 => (F_r04_Few x0 x1).map (res1 rB).enc)
theorem cc_r04_Few : CallC Go.Proofs.Try.prog 26 M_r04_Few := pk_r04_Few.2
/-! ### hopper/hopperref04.Txs -/
theorem en_r04_Txs : Enters Go.Proofs.Try.prog 44 := ⟨_, Go.Proofs.Try.func44, rfl, rfl⟩
def ty_r04_Txs : List (Nat × TI) := [(24, { size := 1, bytes := 24, agg := false, zero := [.sl []], kind := .slice 34 }), (3, { size := 1, bytes := 8, agg := false, zero := [.sc (.int .i64 0)], kind := .int .i64 }), (34, { size := 6, bytes := 56, agg := true, zero := [.sc (.int .i64 0), .sc (.int .i64 0), .sc (.int .i64 0), .sc (.int .i64 0), .sc (.int .i64 0), .sc (.string "".toByteArray)], kind := .struct [(0, 1, false), (1, 1, false), (2, 1, false), (3, 1, false), (4, 1, false), (5, 1, false)] })]
noncomputable def C_r04_Txs : Cfg := mkC ty_r04_Txs [(34, [.i .i64, .i .i64, .i .i64, .i .i64, .i .i64, .s])] [] [] [] [0,1,5] [] [(6, [true, true, true, true, true, true, true, true, true])]
theorem E_r04_Txs : Env1 Go.Proofs.Try.prog C_r04_Txs := mkC_ok (by kernel_rfl) trivial (by kernel_rfl)
theorem C_r04_Txs_ty : (C_r04_Txs).ty = ty_r04_Txs := rfl
theorem C_r04_Txs_eqs : (C_r04_Txs).eqs = [(34, [.i .i64, .i .i64, .i .i64, .i .i64, .i .i64, .s])] := rfl
theorem C_r04_Txs_call : (C_r04_Txs).call = fun f => (([] : List (Nat × (List DA → Option (List RV)))).lookup f).getD fun _ => none := rfl
theorem C_r04_Txs_calls : (C_r04_Txs).calls = [] := rfl
theorem C_r04_Txs_scal : (C_r04_Txs).scal = [] := rfl
theorem C_r04_Txs_owns : (C_r04_Txs).owns = [] := rfl
theorem C_r04_Txs_vars : (C_r04_Txs).vars = [0,1,5] := rfl
theorem C_r04_Txs_ores : (C_r04_Txs).ores = [] := rfl
theorem C_r04_Txs_flags : (C_r04_Txs).flags = [(6, [true, true, true, true, true, true, true, true, true])] := rfl
theorem C_r04_Txs_pins : (C_r04_Txs).pins = [] := rfl
theorem C_r04_Txs_inls : (C_r04_Txs).inls = [] := rfl
structure L_r04_Txs_0 where
  a_ : List Tx
  b_ : List Tx
  i : Int
def an_r04_Txs_0 : Ann := mkAnn (σ := L_r04_Txs_0) (lCons (vOne (cSl ceTx)) <| lCons (vOne (cSl ceTx)) <| lSkip vUnk <| lSkip vUnk <| lSkip vUnk <| lCons (vOne cI) <| lSkip vUnk <| lSkip vUnk <| lSkip vUnk <| lSkip vUnk <| lSkip vUnk <| lSkip vUnk <| lSkip vUnk <| lSkip vUnk <| lSkip vUnk <| lSkip vUnk <| lSkip vUnk <| lSkip vUnk <| lSkip vUnk <| lSkip vUnk <| lSkip vUnk <| lSkip vUnk <| lSkip vUnk <| lSkip vUnk <| lSkip vUnk <| lSkip vUnk <|  lNil) ( lNil)
  (fun a b => L_r04_Txs_0.mk (a.1) (a.2.1) (a.2.2.1)) (fun s => (s.a_, s.b_, s.i, ())) (fun s => (())) (fun a b => true) (fun _ _ _ => ⟨rfl, rfl⟩)
theorem an_r04_Txs_0_st (s : an_r04_Txs_0.σ) : an_r04_Txs_0.st s = ([.v (.one (.d (.sl ((L_r04_Txs_0.a_ s).map Tx.c)))), .v (.one (.d (.sl ((L_r04_Txs_0.b_ s).map Tx.c)))), .unk, .unk, .unk, .v (.one (.d (.sc (.int .i64 (L_r04_Txs_0.i s))))), .unk, .unk, .unk, .unk, .unk, .unk, .unk, .unk, .unk, .unk, .unk, .unk, .unk, .unk, .unk, .unk, .unk, .unk, .unk, .unk], []) := rfl
set_option maxHeartbeats 4000000 in
set_option maxRecDepth 100000 in
theorem an_r04_Txs_0_un {β : Type} (p_a_ : List (List DV)) (p_b_ : List (List DV)) (i : Int) (f_ : an_r04_Txs_0.σ → Option β) : (an_r04_Txs_0.un [.v (.one (.d (.sl p_a_))), .v (.one (.d (.sl p_b_))), .unk, .unk, .unk, .v (.one (.d (.sc (.int .i64 i)))), .unk, .unk, .unk, .unk, .unk, .unk, .unk, .unk, .unk, .unk, .unk, .unk, .unk, .unk, .unk, .unk, .unk, .unk, .unk, .unk] []).bind f_ = (decL dTx p_a_).bind fun a_ => (decL dTx p_b_).bind fun b_ => f_ (L_r04_Txs_0.mk a_ b_ i) :=
  (mkAnn_un (σ := L_r04_Txs_0) _ _ _ _ _ _ _ _ _ f_).trans (by simp [Option.bind_assoc])
def T_r04_Txs : List (Nat × LoopA) := [(0, .ty an_r04_Txs_0)]
set_option maxHeartbeats 20000000 in
set_option maxRecDepth 100000 in
noncomputable def pk_r04_Txs : { F : (List Tx) → (List Tx) → Option (Bool) // CallC Go.Proofs.Try.prog 44 (con2 (eL ceTx) (eL ceTx) (fun x0 x1 => (F x0 x1).map (res1 rB).enc)) } :=
  ⟨_, cc2 E_r04_Txs Go.Proofs.Try.func44 rfl rfl (T := T_r04_Txs) (G := []) (r := (res1 rB)) fun x0 x1 => by
    unfold Wf
    simp (maxSteps := 10000000) (implicitDefEqProofs := false) [-evOps, -evOne, -evOp, -evIndexAddr, -evIndex, -evPick, -binV, -evLoad, -evStore, -loadC, -callV, -nilC, -storeC, -toDVs, -toDAs, -resRs, List.lookup, List.replicate, List.range_succ, ty_r04_Txs, C_r04_Txs_ty, C_r04_Txs_eqs, C_r04_Txs_call, C_r04_Txs_calls, C_r04_Txs_scal, C_r04_Txs_owns, C_r04_Txs_vars, C_r04_Txs_ores, C_r04_Txs_flags, C_r04_Txs_pins, C_r04_Txs_inls, T_r04_Txs, Go.Proofs.Try.f44, an_r04_Txs_0_st, an_r04_Txs_0_un, iC, uC, bC, sC, Tx.c]
    try rfl⟩
noncomputable def F_r04_Txs : (List Tx) → (List Tx) → Option (Bool) := pk_r04_Txs.1
noncomputable def M_r04_Txs : List DA → Option (List RV) := con2 (eL ceTx) (eL ceTx) (fun x0 x1 => (F_r04_Txs x0 x1).map (res1 rB).enc)
theorem cc_r04_Txs : CallC Go.Proofs.Try.prog 44 M_r04_Txs := pk_r04_Txs.2
/-! ### hopper/hopperref05.Small -/
theorem en_r05_Small : Enters Go.Proofs.Try.prog 7 := ⟨_, Go.Proofs.Try.func7, rfl, rfl⟩
def ty_r05_Small : List (Nat × TI) := [(26, { size := 3, bytes := 40, agg := true, zero := [.sc (.int .i64 0), .sc (.int .i64 0), .sl []], kind := .struct [(0, 1, false), (1, 1, false), (2, 1, false)] }), (24, { size := 1, bytes := 24, agg := false, zero := [.sl []], kind := .slice 34 }), (3, { size := 1, bytes := 8, agg := false, zero := [.sc (.int .i64 0)], kind := .int .i64 }), (34, { size := 6, bytes := 56, agg := true, zero := [.sc (.int .i64 0), .sc (.int .i64 0), .sc (.int .i64 0), .sc (.int .i64 0), .sc (.int .i64 0), .sc (.string "".toByteArray)], kind := .struct [(0, 1, false), (1, 1, false), (2, 1, false), (3, 1, false), (4, 1, false), (5, 1, false)] })]
noncomputable def C_r05_Small : Cfg := mkC ty_r05_Small [] [(26, M_r04_Few)] [26] [] [] [] []
theorem E_r05_Small : Env1 Go.Proofs.Try.prog C_r05_Small := mkC_ok (by kernel_rfl) (⟨⟨en_r04_Few, cc_r04_Few⟩, trivial⟩) (by kernel_rfl)
theorem C_r05_Small_ty : (C_r05_Small).ty = ty_r05_Small := rfl
theorem C_r05_Small_eqs : (C_r05_Small).eqs = [] := rfl
theorem C_r05_Small_call : (C_r05_Small).call = fun f => (([(26, M_r04_Few)] : List (Nat × (List DA → Option (List RV)))).lookup f).getD fun _ => none := rfl
theorem C_r05_Small_calls : (C_r05_Small).calls = [26] := rfl
theorem C_r05_Small_scal : (C_r05_Small).scal = [26] := rfl
theorem C_r05_Small_owns : (C_r05_Small).owns = [] := rfl
theorem C_r05_Small_vars : (C_r05_Small).vars = [] := rfl
theorem C_r05_Small_ores : (C_r05_Small).ores = [] := rfl
theorem C_r05_Small_flags : (C_r05_Small).flags = [] := rfl
theorem C_r05_Small_pins : (C_r05_Small).pins = [] := rfl
theorem C_r05_Small_inls : (C_r05_Small).inls = [] := rfl
def T_r05_Small : List (Nat × LoopA) := []
set_option maxHeartbeats 20000000 in
set_option maxRecDepth 100000 in
noncomputable def pk_r05_Small : { F : Acc → Option (Bool) // CallC Go.Proofs.Try.prog 7 (con1 (eT ceAcc) (fun x0 => (F x0).map (res1 rB).enc)) } :=
  ⟨_, cc1 E_r05_Small Go.Proofs.Try.func7 rfl rfl (T := T_r05_Small) (G := []) (r := (res1 rB)) fun x0 => by
    unfold Wf
    simp (maxSteps := 10000000) (implicitDefEqProofs := false) [-evOps, -evOne, -evOp, -evIndexAddr, -evIndex, -evPick, -binV, -evLoad, -evStore, -loadC, -callV, -nilC, -storeC, -toDVs, -toDAs, -resRs, List.lookup, List.replicate, List.range_succ, ty_r05_Small, C_r05_Small_ty, C_r05_Small_eqs, C_r05_Small_call, C_r05_Small_calls, C_r05_Small_scal, C_r05_Small_owns, C_r05_Small_vars, C_r05_Small_ores, C_r05_Small_flags, C_r05_Small_pins, C_r05_Small_inls, T_r05_Small, Go.Proofs.Try.f7, M_r04_Few, iC, uC, bC, sC, Acc.c, Tx.c]
    try rfl⟩
noncomputable def F_r05_Small : Acc → Option (Bool) := pk_r05_Small.1
noncomputable def M_r05_Small : List DA → Option (List RV) := con1 (eT ceAcc) (fun x0 => (F_r05_Small x0).map (res1 rB).enc)
theorem cc_r05_Small : CallC Go.Proofs.Try.prog 7 M_r05_Small := pk_r05_Small.2
/-! ### hopper/hopperref05.Drop -/
theorem en_r05_Drop : Enters Go.Proofs.Try.prog 43 := ⟨_, Go.Proofs.Try.func43, rfl, rfl⟩
def ty_r05_Drop : List (Nat × TI) := [(26, { size := 3, bytes := 40, agg := true, zero := [.sc (.int .i64 0), .sc (.int .i64 0), .sl []], kind := .struct [(0, 1, false), (1, 1, false), (2, 1, false)] }), (24, { size := 1, bytes := 24, agg := false, zero := [.sl []], kind := .slice 34 }), (3, { size := 1, bytes := 8, agg := false, zero := [.sc (.int .i64 0)], kind := .int .i64 }), (34, { size := 6, bytes := 56, agg := true, zero := [.sc (.int .i64 0), .sc (.int .i64 0), .sc (.int .i64 0), .sc (.int .i64 0), .sc (.int .i64 0), .sc (.string "".toByteArray)], kind := .struct [(0, 1, false), (1, 1, false), (2, 1, false), (3, 1, false), (4, 1, false), (5, 1, false)] })]
noncomputable def C_r05_Drop : Cfg := mkC ty_r05_Drop [] [] [] [(5, [(0, 34, 6)])] [1,2,4,5,6] [] []
theorem E_r05_Drop : Env1 Go.Proofs.Try.prog C_r05_Drop := mkC_ok (by kernel_rfl) trivial (by kernel_rfl)
theorem C_r05_Drop_ty : (C_r05_Drop).ty = ty_r05_Drop := rfl
theorem C_r05_Drop_eqs : (C_r05_Drop).eqs = [] := rfl
theorem C_r05_Drop_call : (C_r05_Drop).call = fun f => (([] : List (Nat × (List DA → Option (List RV)))).lookup f).getD fun _ => none := rfl
theorem C_r05_Drop_calls : (C_r05_Drop).calls = [] := rfl
theorem C_r05_Drop_scal : (C_r05_Drop).scal = [] := rfl
theorem C_r05_Drop_owns : (C_r05_Drop).owns = [(5, [(0, 34, 6)])] := rfl
theorem C_r05_Drop_vars : (C_r05_Drop).vars = [1,2,4,5,6] := rfl
theorem C_r05_Drop_ores : (C_r05_Drop).ores = [] := rfl
theorem C_r05_Drop_flags : (C_r05_Drop).flags = [] := rfl
theorem C_r05_Drop_pins : (C_r05_Drop).pins = [] := rfl
theorem C_r05_Drop_inls : (C_r05_Drop).inls = [] := rfl
structure L_r05_Drop_0 where
  nonce : Int
  i : Int
  a_ : Acc
  sender : Int
  base : Int
  out : List Tx
def an_r05_Drop_0 : Ann := mkAnn (σ := L_r05_Drop_0) (lSkip vUnk <| lCons (vOne cI) <| lSkip (vOne (cPtr 0 0 0)) <| lSkip vUnk <| lSkip (vOne (cPtr 1 0 0)) <| lCons (vOne (cOwn 2)) <| lCons (vOne cI) <| lSkip vUnk <| lSkip vUnk <| lSkip vUnk <| lSkip vUnk <| lSkip vUnk <| lSkip vUnk <| lSkip vUnk <| lSkip vUnk <| lSkip vUnk <| lSkip vUnk <| lSkip vUnk <| lSkip vUnk <| lSkip vUnk <| lSkip vUnk <| lSkip vUnk <| lSkip vUnk <| lSkip vUnk <| lSkip vUnk <| lSkip vUnk <| lSkip vUnk <| lSkip vUnk <| lSkip vUnk <| lSkip vUnk <| lSkip vUnk <| lSkip vUnk <| lSkip vUnk <|  lNil) (lCons (oBox 26 (cStr ceAcc)) <| lCons (oBox 26 (lCons cI <| lCons cI <| lSkip cNil <|  lNil)) <| lCons (oArr 34 6 ceTx) <|  lNil)
  (fun a b => L_r05_Drop_0.mk (a.1) (a.2.2.1) (b.1) (b.2.1.1) (b.2.1.2.1) (b.2.2.1)) (fun s => (s.nonce, s.out.length, s.i, ())) (fun s => (s.a_, (s.sender, s.base, ()), s.out, ())) (fun a b => decide (a.2.1 = (b.2.2.1).length)) (by rintro ⟨a0, a1, a2, _⟩ ⟨b0, ⟨c1_0, c1_1, _⟩, b2, _⟩ h; simp at h; simp [h])
theorem an_r05_Drop_0_st (s : an_r05_Drop_0.σ) : an_r05_Drop_0.st s = ([.unk, .v (.one (.d (.sc (.int .i64 (L_r05_Drop_0.nonce s))))), .v (.one (.ptr 0 0 0)), .unk, .v (.one (.ptr 1 0 0)), .v (.one (.own 2 (L_r05_Drop_0.out s).length)), .v (.one (.d (.sc (.int .i64 (L_r05_Drop_0.i s))))), .unk, .unk, .unk, .unk, .unk, .unk, .unk, .unk, .unk, .unk, .unk, .unk, .unk, .unk, .unk, .unk, .unk, .unk, .unk, .unk, .unk, .unk, .unk, .unk, .unk, .unk], [.box 26 (ddv (Acc.c (L_r05_Drop_0.a_ s))), .box 26 [.d (.sc (.int .i64 (L_r05_Drop_0.sender s))), .d (.sc (.int .i64 (L_r05_Drop_0.base s))), .nil], .arr 34 6 ((L_r05_Drop_0.out s).map Tx.c)]) := rfl
set_option maxHeartbeats 4000000 in
set_option maxRecDepth 100000 in
theorem an_r05_Drop_0_un {β : Type} (nonce : Int) (m1_out : Nat) (i : Int) (p_a_ : List CV) (sender : Int) (base : Int) (p_out : List (List DV)) (f_ : an_r05_Drop_0.σ → Option β) : (an_r05_Drop_0.un [.unk, .v (.one (.d (.sc (.int .i64 nonce)))), .v (.one (.ptr 0 0 0)), .unk, .v (.one (.ptr 1 0 0)), .v (.one (.own 2 m1_out)), .v (.one (.d (.sc (.int .i64 i)))), .unk, .unk, .unk, .unk, .unk, .unk, .unk, .unk, .unk, .unk, .unk, .unk, .unk, .unk, .unk, .unk, .unk, .unk, .unk, .unk, .unk, .unk, .unk, .unk, .unk, .unk] [.box 26 p_a_, .box 26 [.d (.sc (.int .i64 sender)), .d (.sc (.int .i64 base)), .nil], .arr 34 6 p_out]).bind f_ = ((allD p_a_).bind dAcc).bind fun a_ => (decL dTx p_out).bind fun out => (if m1_out = out.length then f_ (L_r05_Drop_0.mk nonce i a_ sender base out) else none) :=
  (mkAnn_un (σ := L_r05_Drop_0) _ _ _ _ _ _ _ _ _ f_).trans (by simp [Option.bind_assoc, bind_ite])
def T_r05_Drop : List (Nat × LoopA) := [(0, .ty an_r05_Drop_0)]
set_option maxHeartbeats 20000000 in
set_option maxRecDepth 100000 in
noncomputable def pk_r05_Drop : { F : Acc → Int → Option (Acc) // CallC Go.Proofs.Try.prog 43 (con2 (eT ceAcc) eInt (fun x0 x1 => (F x0 x1).map (res1 (rAgg ceAcc)).enc)) } :=
  ⟨_, cc2 E_r05_Drop Go.Proofs.Try.func43 rfl rfl (T := T_r05_Drop) (G := []) (r := (res1 (rAgg ceAcc))) fun x0 x1 => by
    unfold Wf
    simp (maxSteps := 10000000) (implicitDefEqProofs := false) [-evOps, -evOne, -evOp, -evIndexAddr, -evIndex, -evPick, -binV, -evLoad, -evStore, -loadC, -callV, -nilC, -storeC, -toDVs, -toDAs, -resRs, List.lookup, List.replicate, List.range_succ, ty_r05_Drop, C_r05_Drop_ty, C_r05_Drop_eqs, C_r05_Drop_call, C_r05_Drop_calls, C_r05_Drop_scal, C_r05_Drop_owns, C_r05_Drop_vars, C_r05_Drop_ores, C_r05_Drop_flags, C_r05_Drop_pins, C_r05_Drop_inls, T_r05_Drop, Go.Proofs.Try.f43, an_r05_Drop_0_st, an_r05_Drop_0_un, iC, uC, bC, sC, Acc.c, Tx.c]
    try rfl⟩
noncomputable def F_r05_Drop : Acc → Int → Option (Acc) := pk_r05_Drop.1
noncomputable def M_r05_Drop : List DA → Option (List RV) := con2 (eT ceAcc) eInt (fun x0 x1 => (F_r05_Drop x0 x1).map (res1 (rAgg ceAcc)).enc)
theorem cc_r05_Drop : CallC Go.Proofs.Try.prog 43 M_r05_Drop := pk_r05_Drop.2
/-! ### hopper/hopperref04.Check -/
theorem en_r04_Check : Enters Go.Proofs.Try.prog 45 := ⟨_, Go.Proofs.Try.func45, rfl, rfl⟩
def ty_r04_Check : List (Nat × TI) := [(34, { size := 6, bytes := 56, agg := true, zero := [.sc (.int .i64 0), .sc (.int .i64 0), .sc (.int .i64 0), .sc (.int .i64 0), .sc (.int .i64 0), .sc (.string "".toByteArray)], kind := .struct [(0, 1, false), (1, 1, false), (2, 1, false), (3, 1, false), (4, 1, false), (5, 1, false)] }), (3, { size := 1, bytes := 8, agg := false, zero := [.sc (.int .i64 0)], kind := .int .i64 }), (9, { size := 1, bytes := 16, agg := false, zero := [.sc (.string "".toByteArray)], kind := .str })]
noncomputable def C_r04_Check : Cfg := mkC ty_r04_Check [] [] [] [] [] [] []
theorem E_r04_Check : Env1 Go.Proofs.Try.prog C_r04_Check := mkC_ok (by kernel_rfl) trivial (by kernel_rfl)
theorem C_r04_Check_ty : (C_r04_Check).ty = ty_r04_Check := rfl
theorem C_r04_Check_eqs : (C_r04_Check).eqs = [] := rfl
theorem C_r04_Check_call : (C_r04_Check).call = fun f => (([] : List (Nat × (List DA → Option (List RV)))).lookup f).getD fun _ => none := rfl
theorem C_r04_Check_calls : (C_r04_Check).calls = [] := rfl
theorem C_r04_Check_scal : (C_r04_Check).scal = [] := rfl
theorem C_r04_Check_owns : (C_r04_Check).owns = [] := rfl
theorem C_r04_Check_vars : (C_r04_Check).vars = [] := rfl
theorem C_r04_Check_ores : (C_r04_Check).ores = [] := rfl
theorem C_r04_Check_flags : (C_r04_Check).flags = [] := rfl
theorem C_r04_Check_pins : (C_r04_Check).pins = [] := rfl
theorem C_r04_Check_inls : (C_r04_Check).inls = [] := rfl
def T_r04_Check : List (Nat × LoopA) := []
set_option maxHeartbeats 20000000 in
set_option maxRecDepth 100000 in
noncomputable def pk_r04_Check : { F : Tx → Option (Bool) // CallC Go.Proofs.Try.prog 45 (con1 (eT ceTx) (fun x0 => (F x0).map (res1 rB).enc)) } :=
  ⟨_, cc1 E_r04_Check Go.Proofs.Try.func45 rfl rfl (T := T_r04_Check) (G := []) (r := (res1 rB)) fun x0 => by
    unfold Wf
    simp (maxSteps := 10000000) (implicitDefEqProofs := false) [-evOps, -evOne, -evOp, -evIndexAddr, -evIndex, -evPick, -binV, -evLoad, -evStore, -loadC, -callV, -nilC, -storeC, -toDVs, -toDAs, -resRs, List.lookup, List.replicate, List.range_succ, ty_r04_Check, C_r04_Check_ty, C_r04_Check_eqs, C_r04_Check_call, C_r04_Check_calls, C_r04_Check_scal, C_r04_Check_owns, C_r04_Check_vars, C_r04_Check_ores, C_r04_Check_flags, C_r04_Check_pins, C_r04_Check_inls, T_r04_Check, Go.Proofs.Try.f45, iC, uC, bC, sC, Tx.c]
    try rfl⟩
noncomputable def F_r04_Check : Tx → Option (Bool) := pk_r04_Check.1
noncomputable def M_r04_Check : List DA → Option (List RV) := con1 (eT ceTx) (fun x0 => (F_r04_Check x0).map (res1 rB).enc)
theorem cc_r04_Check : CallC Go.Proofs.Try.prog 45 M_r04_Check := pk_r04_Check.2
/-! ### hopper/hopperref05.Same -/
theorem en_r05_Same : Enters Go.Proofs.Try.prog 21 := ⟨_, Go.Proofs.Try.func21, rfl, rfl⟩
def ty_r05_Same : List (Nat × TI) := [(26, { size := 3, bytes := 40, agg := true, zero := [.sc (.int .i64 0), .sc (.int .i64 0), .sl []], kind := .struct [(0, 1, false), (1, 1, false), (2, 1, false)] }), (3, { size := 1, bytes := 8, agg := false, zero := [.sc (.int .i64 0)], kind := .int .i64 }), (24, { size := 1, bytes := 24, agg := false, zero := [.sl []], kind := .slice 34 }), (34, { size := 6, bytes := 56, agg := true, zero := [.sc (.int .i64 0), .sc (.int .i64 0), .sc (.int .i64 0), .sc (.int .i64 0), .sc (.int .i64 0), .sc (.string "".toByteArray)], kind := .struct [(0, 1, false), (1, 1, false), (2, 1, false), (3, 1, false), (4, 1, false), (5, 1, false)] })]
noncomputable def C_r05_Same : Cfg := mkC ty_r05_Same [] [(44, M_r04_Txs)] [44] [] [] [] []
theorem E_r05_Same : Env1 Go.Proofs.Try.prog C_r05_Same := mkC_ok (by kernel_rfl) (⟨⟨en_r04_Txs, cc_r04_Txs⟩, trivial⟩) (by kernel_rfl)
theorem C_r05_Same_ty : (C_r05_Same).ty = ty_r05_Same := rfl
theorem C_r05_Same_eqs : (C_r05_Same).eqs = [] := rfl
theorem C_r05_Same_call : (C_r05_Same).call = fun f => (([(44, M_r04_Txs)] : List (Nat × (List DA → Option (List RV)))).lookup f).getD fun _ => none := rfl
theorem C_r05_Same_calls : (C_r05_Same).calls = [44] := rfl
theorem C_r05_Same_scal : (C_r05_Same).scal = [44] := rfl
theorem C_r05_Same_owns : (C_r05_Same).owns = [] := rfl
theorem C_r05_Same_vars : (C_r05_Same).vars = [] := rfl
theorem C_r05_Same_ores : (C_r05_Same).ores = [] := rfl
theorem C_r05_Same_flags : (C_r05_Same).flags = [] := rfl
theorem C_r05_Same_pins : (C_r05_Same).pins = [] := rfl
theorem C_r05_Same_inls : (C_r05_Same).inls = [] := rfl
def T_r05_Same : List (Nat × LoopA) := []
set_option maxHeartbeats 20000000 in
set_option maxRecDepth 100000 in
noncomputable def pk_r05_Same : { F : Acc → Acc → Option (Bool) // CallC Go.Proofs.Try.prog 21 (con2 (eT ceAcc) (eT ceAcc) (fun x0 x1 => (F x0 x1).map (res1 rB).enc)) } :=
  ⟨_, cc2 E_r05_Same Go.Proofs.Try.func21 rfl rfl (T := T_r05_Same) (G := []) (r := (res1 rB)) fun x0 x1 => by
    unfold Wf
    simp (maxSteps := 10000000) (implicitDefEqProofs := false) [-evOps, -evOne, -evOp, -evIndexAddr, -evIndex, -evPick, -binV, -evLoad, -evStore, -loadC, -callV, -nilC, -storeC, -toDVs, -toDAs, -resRs, List.lookup, List.replicate, List.range_succ, ty_r05_Same, C_r05_Same_ty, C_r05_Same_eqs, C_r05_Same_call, C_r05_Same_calls, C_r05_Same_scal, C_r05_Same_owns, C_r05_Same_vars, C_r05_Same_ores, C_r05_Same_flags, C_r05_Same_pins, C_r05_Same_inls, T_r05_Same, Go.Proofs.Try.f21, M_r04_Txs, iC, uC, bC, sC, Acc.c, Tx.c]
    try rfl⟩
noncomputable def F_r05_Same : Acc → Acc → Option (Bool) := pk_r05_Same.1
noncomputable def M_r05_Same : List DA → Option (List RV) := con2 (eT ceAcc) (eT ceAcc) (fun x0 x1 => (F_r05_Same x0 x1).map (res1 rB).enc)
theorem cc_r05_Same : CallC Go.Proofs.Try.prog 21 M_r05_Same := pk_r05_Same.2

end Go.Vm

/- What Go functions come to, as Lean functions: each with its contract. -/
set_option linter.unusedVariables false
set_option linter.unusedSimpArgs false
namespace Go.Vm
open Go Go.RowKit

/-! ### hopper/hopperref05.Put -/
theorem en_r05_Put : Enters Go.Proofs.Try.prog 53 := ⟨_, Go.Proofs.Try.func53, rfl, rfl⟩
def ty_r05_Put : List (Nat × TI) := [(26, { size := 3, bytes := 40, agg := true, zero := [.sc (.int .i64 0), .sc (.int .i64 0), .sl []], kind := .struct [(0, 1, false), (1, 1, false), (2, 1, false)] }), (34, { size := 6, bytes := 56, agg := true, zero := [.sc (.int .i64 0), .sc (.int .i64 0), .sc (.int .i64 0), .sc (.int .i64 0), .sc (.int .i64 0), .sc (.string "".toByteArray)], kind := .struct [(0, 1, false), (1, 1, false), (2, 1, false), (3, 1, false), (4, 1, false), (5, 1, false)] }), (24, { size := 1, bytes := 24, agg := false, zero := [.sl []], kind := .slice 34 }), (3, { size := 1, bytes := 8, agg := false, zero := [.sc (.int .i64 0)], kind := .int .i64 })]
noncomputable def C_r05_Put : Cfg := mkC ty_r05_Put [] [(25, M_r05_Find)] [25] [(5, [(0, 34, 6)])] [2,3,4,5,6,8,9] [] []
theorem E_r05_Put : Env1 Go.Proofs.Try.prog C_r05_Put := mkC_ok (by kernel_rfl) (⟨⟨en_r05_Find, cc_r05_Find⟩, trivial⟩) (by kernel_rfl)
theorem C_r05_Put_ty : (C_r05_Put).ty = ty_r05_Put := rfl
theorem C_r05_Put_eqs : (C_r05_Put).eqs = [] := rfl
theorem C_r05_Put_call : (C_r05_Put).call = fun f => (([(25, M_r05_Find)] : List (Nat × (List DA → Option (List RV)))).lookup f).getD fun _ => none := rfl
theorem C_r05_Put_calls : (C_r05_Put).calls = [25] := rfl
theorem C_r05_Put_scal : (C_r05_Put).scal = [25] := rfl
theorem C_r05_Put_owns : (C_r05_Put).owns = [(5, [(0, 34, 6)])] := rfl
theorem C_r05_Put_vars : (C_r05_Put).vars = [2,3,4,5,6,8,9] := rfl
theorem C_r05_Put_ores : (C_r05_Put).ores = [] := rfl
theorem C_r05_Put_flags : (C_r05_Put).flags = [] := rfl
theorem C_r05_Put_pins : (C_r05_Put).pins = [] := rfl
theorem C_r05_Put_inls : (C_r05_Put).inls = [] := rfl
structure L_r05_Put_0 where
  laid : Bool
  is : Bool
  i : Int
  a_ : Acc
  t : Tx
  sender : Int
  base : Int
  out : List Tx
  o4 : Tx
def an_r05_Put_0 : Ann := mkAnn (σ := L_r05_Put_0) (lSkip vUnk <| lSkip vUnk <| lSkip (vOne (cPtr 0 0 0)) <| lSkip (vOne (cPtr 1 0 0)) <| lSkip (vOne (cPtr 2 0 0)) <| lCons (vOne (cOwn 3)) <| lCons (vOne cB) <| lSkip vUnk <| lCons (vOne cB) <| lCons (vOne cI) <| lSkip vUnk <| lSkip vUnk <| lSkip vUnk <| lSkip vUnk <| lSkip vUnk <| lSkip vUnk <| lSkip vUnk <| lSkip vUnk <| lSkip vUnk <| lSkip vUnk <| lSkip vUnk <| lSkip vUnk <| lSkip vUnk <| lSkip vUnk <| lSkip vUnk <| lSkip vUnk <| lSkip vUnk <| lSkip vUnk <| lSkip vUnk <| lSkip vUnk <| lSkip vUnk <| lSkip vUnk <| lSkip vUnk <| lSkip vUnk <| lSkip vUnk <| lSkip vUnk <| lSkip vUnk <| lSkip vUnk <| lSkip vUnk <| lSkip vUnk <| lSkip vUnk <| lSkip vUnk <| lSkip vUnk <| lSkip vUnk <| lSkip vUnk <| lSkip vUnk <| lSkip vUnk <| lSkip vUnk <| lSkip vUnk <| lSkip vUnk <| lSkip vUnk <| lSkip vUnk <| lSkip vUnk <| lSkip vUnk <| lSkip vUnk <| lSkip vUnk <| lSkip vUnk <| lSkip vUnk <| lSkip vUnk <| lSkip vUnk <| lSkip vUnk <| lSkip vUnk <| lSkip vUnk <| lSkip vUnk <| lSkip vUnk <| lSkip vUnk <| lSkip vUnk <| lSkip vUnk <| lSkip vUnk <| lSkip vUnk <| lSkip vUnk <| lSkip vUnk <| lSkip vUnk <|  lNil) (lCons (oBox 26 (cStr ceAcc)) <| lCons (oBox 34 (cStr ceTx)) <| lCons (oBox 26 (lCons cI <| lCons cI <| lSkip cNil <|  lNil)) <| lCons (oArr 34 6 ceTx) <| lCons (oBox 34 (cStr ceTx)) <|  lNil)
  (fun a b => L_r05_Put_0.mk (a.2.1) (a.2.2.1) (a.2.2.2.1) (b.1) (b.2.1) (b.2.2.1.1) (b.2.2.1.2.1) (b.2.2.2.1) (b.2.2.2.2.1)) (fun s => (s.out.length, s.laid, s.is, s.i, ())) (fun s => (s.a_, s.t, (s.sender, s.base, ()), s.out, s.o4, ())) (fun a b => decide (a.1 = (b.2.2.2.1).length)) (by rintro ⟨a0, a1, a2, a3, _⟩ ⟨b0, b1, ⟨c2_0, c2_1, _⟩, b3, b4, _⟩ h; simp at h; simp [h])
theorem an_r05_Put_0_st (s : an_r05_Put_0.σ) : an_r05_Put_0.st s = ([.unk, .unk, .v (.one (.ptr 0 0 0)), .v (.one (.ptr 1 0 0)), .v (.one (.ptr 2 0 0)), .v (.one (.own 3 (L_r05_Put_0.out s).length)), .v (.one (.d (.sc (.bool (L_r05_Put_0.laid s))))), .unk, .v (.one (.d (.sc (.bool (L_r05_Put_0.is s))))), .v (.one (.d (.sc (.int .i64 (L_r05_Put_0.i s))))), .unk, .unk, .unk, .unk, .unk, .unk, .unk, .unk, .unk, .unk, .unk, .unk, .unk, .unk, .unk, .unk, .unk, .unk, .unk, .unk, .unk, .unk, .unk, .unk, .unk, .unk, .unk, .unk, .unk, .unk, .unk, .unk, .unk, .unk, .unk, .unk, .unk, .unk, .unk, .unk, .unk, .unk, .unk, .unk, .unk, .unk, .unk, .unk, .unk, .unk, .unk, .unk, .unk, .unk, .unk, .unk, .unk, .unk, .unk, .unk, .unk, .unk, .unk], [.box 26 (ddv (Acc.c (L_r05_Put_0.a_ s))), .box 34 (ddv (Tx.c (L_r05_Put_0.t s))), .box 26 [.d (.sc (.int .i64 (L_r05_Put_0.sender s))), .d (.sc (.int .i64 (L_r05_Put_0.base s))), .nil], .arr 34 6 ((L_r05_Put_0.out s).map Tx.c), .box 34 (ddv (Tx.c (L_r05_Put_0.o4 s)))]) := rfl
set_option maxHeartbeats 4000000 in
set_option maxRecDepth 100000 in
theorem an_r05_Put_0_un {β : Type} (m1_out : Nat) (laid : Bool) (is : Bool) (i : Int) (p_a_ : List CV) (p_t : List CV) (sender : Int) (base : Int) (p_out : List (List DV)) (p_o4 : List CV) (f_ : an_r05_Put_0.σ → Option β) : (an_r05_Put_0.un [.unk, .unk, .v (.one (.ptr 0 0 0)), .v (.one (.ptr 1 0 0)), .v (.one (.ptr 2 0 0)), .v (.one (.own 3 m1_out)), .v (.one (.d (.sc (.bool laid)))), .unk, .v (.one (.d (.sc (.bool is)))), .v (.one (.d (.sc (.int .i64 i)))), .unk, .unk, .unk, .unk, .unk, .unk, .unk, .unk, .unk, .unk, .unk, .unk, .unk, .unk, .unk, .unk, .unk, .unk, .unk, .unk, .unk, .unk, .unk, .unk, .unk, .unk, .unk, .unk, .unk, .unk, .unk, .unk, .unk, .unk, .unk, .unk, .unk, .unk, .unk, .unk, .unk, .unk, .unk, .unk, .unk, .unk, .unk, .unk, .unk, .unk, .unk, .unk, .unk, .unk, .unk, .unk, .unk, .unk, .unk, .unk, .unk, .unk, .unk] [.box 26 p_a_, .box 34 p_t, .box 26 [.d (.sc (.int .i64 sender)), .d (.sc (.int .i64 base)), .nil], .arr 34 6 p_out, .box 34 p_o4]).bind f_ = ((allD p_a_).bind dAcc).bind fun a_ => ((allD p_t).bind dTx).bind fun t => (decL dTx p_out).bind fun out => ((allD p_o4).bind dTx).bind fun o4 => (if m1_out = out.length then f_ (L_r05_Put_0.mk laid is i a_ t sender base out o4) else none) :=
  (mkAnn_un (σ := L_r05_Put_0) _ _ _ _ _ _ _ _ _ f_).trans (by simp [Option.bind_assoc, bind_ite])
def T_r05_Put : List (Nat × LoopA) := [(0, .ty an_r05_Put_0)]
set_option maxHeartbeats 20000000 in
set_option maxRecDepth 100000 in
noncomputable def pk_r05_Put : { F : Acc → Tx → Option (Acc) // CallC Go.Proofs.Try.prog 53 (con2 (eT ceAcc) (eT ceTx) (fun x0 x1 => (F x0 x1).map (res1 (rAgg ceAcc)).enc)) } :=
  ⟨_, cc2 E_r05_Put Go.Proofs.Try.func53 rfl rfl (T := T_r05_Put) (G := []) (r := (res1 (rAgg ceAcc))) fun x0 x1 => by
    unfold Wf
    simp (maxSteps := 10000000) (implicitDefEqProofs := false) [-evOps, -evOne, -evOp, -evIndexAddr, -evIndex, -evPick, -binV, -evLoad, -evStore, -loadC, -callV, -nilC, -storeC, -toDVs, -toDAs, -resRs, List.lookup, List.replicate, List.range_succ, ty_r05_Put, C_r05_Put_ty, C_r05_Put_eqs, C_r05_Put_call, C_r05_Put_calls, C_r05_Put_scal, C_r05_Put_owns, C_r05_Put_vars, C_r05_Put_ores, C_r05_Put_flags, C_r05_Put_pins, C_r05_Put_inls, T_r05_Put, Go.Proofs.Try.f53, M_r05_Find, an_r05_Put_0_st, an_r05_Put_0_un, iC, uC, bC, sC, Acc.c, Tx.c]
    try rfl⟩
noncomputable def F_r05_Put : Acc → Tx → Option (Acc) := pk_r05_Put.1
noncomputable def M_r05_Put : List DA → Option (List RV) := con2 (eT ceAcc) (eT ceTx) (fun x0 x1 => (F_r05_Put x0 x1).map (res1 (rAgg ceAcc)).enc)
theorem cc_r05_Put : CallC Go.Proofs.Try.prog 53 M_r05_Put := pk_r05_Put.2
/-! ### hopper/hopperref05.Advance -/
theorem en_r05_Advance : Enters Go.Proofs.Try.prog 54 := ⟨_, Go.Proofs.Try.func54, rfl, rfl⟩
def ty_r05_Advance : List (Nat × TI) := [(26, { size := 3, bytes := 40, agg := true, zero := [.sc (.int .i64 0), .sc (.int .i64 0), .sl []], kind := .struct [(0, 1, false), (1, 1, false), (2, 1, false)] }), (24, { size := 1, bytes := 24, agg := false, zero := [.sl []], kind := .slice 34 }), (3, { size := 1, bytes := 8, agg := false, zero := [.sc (.int .i64 0)], kind := .int .i64 }), (34, { size := 6, bytes := 56, agg := true, zero := [.sc (.int .i64 0), .sc (.int .i64 0), .sc (.int .i64 0), .sc (.int .i64 0), .sc (.int .i64 0), .sc (.string "".toByteArray)], kind := .struct [(0, 1, false), (1, 1, false), (2, 1, false), (3, 1, false), (4, 1, false), (5, 1, false)] })]
noncomputable def C_r05_Advance : Cfg := mkC ty_r05_Advance [] [] [] [(5, [(0, 34, 6)]), (7, [(0, 34, 6)]), (8, [(0, 34, 6)])] [1,2,4,7,8,9] [] []
theorem E_r05_Advance : Env1 Go.Proofs.Try.prog C_r05_Advance := mkC_ok (by kernel_rfl) trivial (by kernel_rfl)
theorem C_r05_Advance_ty : (C_r05_Advance).ty = ty_r05_Advance := rfl
theorem C_r05_Advance_eqs : (C_r05_Advance).eqs = [] := rfl
theorem C_r05_Advance_call : (C_r05_Advance).call = fun f => (([] : List (Nat × (List DA → Option (List RV)))).lookup f).getD fun _ => none := rfl
theorem C_r05_Advance_calls : (C_r05_Advance).calls = [] := rfl
theorem C_r05_Advance_scal : (C_r05_Advance).scal = [] := rfl
theorem C_r05_Advance_owns : (C_r05_Advance).owns = [(5, [(0, 34, 6)]), (7, [(0, 34, 6)]), (8, [(0, 34, 6)])] := rfl
theorem C_r05_Advance_vars : (C_r05_Advance).vars = [1,2,4,7,8,9] := rfl
theorem C_r05_Advance_ores : (C_r05_Advance).ores = [] := rfl
theorem C_r05_Advance_flags : (C_r05_Advance).flags = [] := rfl
theorem C_r05_Advance_pins : (C_r05_Advance).pins = [] := rfl
theorem C_r05_Advance_inls : (C_r05_Advance).inls = [] := rfl
structure L_r05_Advance_0 where
  base : Int
  i : Int
  a_ : Acc
  sender : Int
  base2 : Int
  o2 : List Tx
  left : List Tx
  gone : List Tx
def an_r05_Advance_0 : Ann := mkAnn (σ := L_r05_Advance_0) (lSkip vUnk <| lCons (vOne cI) <| lSkip (vOne (cPtr 0 0 0)) <| lSkip vUnk <| lSkip (vOne (cPtr 1 0 0)) <| lSkip vUnk <| lSkip vUnk <| lCons (vOne (cOwn 3)) <| lCons (vOne (cOwn 4)) <| lCons (vOne cI) <| lSkip vUnk <| lSkip vUnk <| lSkip vUnk <| lSkip vUnk <| lSkip vUnk <| lSkip vUnk <| lSkip vUnk <| lSkip vUnk <| lSkip vUnk <| lSkip vUnk <| lSkip vUnk <| lSkip vUnk <| lSkip vUnk <| lSkip vUnk <| lSkip vUnk <| lSkip vUnk <| lSkip vUnk <| lSkip vUnk <| lSkip vUnk <| lSkip vUnk <| lSkip vUnk <| lSkip vUnk <| lSkip vUnk <| lSkip vUnk <| lSkip vUnk <| lSkip vUnk <| lSkip vUnk <| lSkip vUnk <| lSkip vUnk <| lSkip vUnk <| lSkip vUnk <| lSkip vUnk <| lSkip vUnk <| lSkip vUnk <| lSkip vUnk <| lSkip vUnk <| lSkip vUnk <| lSkip vUnk <| lSkip vUnk <| lSkip vUnk <| lSkip vUnk <| lSkip vUnk <| lSkip vUnk <| lSkip vUnk <| lSkip vUnk <| lSkip vUnk <| lSkip vUnk <| lSkip vUnk <| lSkip vUnk <|  lNil) (lCons (oBox 26 (cStr ceAcc)) <| lCons (oBox 26 (lCons cI <| lCons cI <| lSkip cNil <|  lNil)) <| lCons (oArr 34 6 ceTx) <| lCons (oArr 34 6 ceTx) <| lCons (oArr 34 6 ceTx) <|  lNil)
  (fun a b => L_r05_Advance_0.mk (a.1) (a.2.2.2.1) (b.1) (b.2.1.1) (b.2.1.2.1) (b.2.2.1) (b.2.2.2.1) (b.2.2.2.2.1)) (fun s => (s.base, s.left.length, s.gone.length, s.i, ())) (fun s => (s.a_, (s.sender, s.base2, ()), s.o2, s.left, s.gone, ())) (fun a b => decide (a.2.1 = (b.2.2.2.1).length) && decide (a.2.2.1 = (b.2.2.2.2.1).length)) (by rintro ⟨a0, a1, a2, a3, _⟩ ⟨b0, ⟨c1_0, c1_1, _⟩, b2, b3, b4, _⟩ h; simp at h; simp [h])
theorem an_r05_Advance_0_st (s : an_r05_Advance_0.σ) : an_r05_Advance_0.st s = ([.unk, .v (.one (.d (.sc (.int .i64 (L_r05_Advance_0.base s))))), .v (.one (.ptr 0 0 0)), .unk, .v (.one (.ptr 1 0 0)), .unk, .unk, .v (.one (.own 3 (L_r05_Advance_0.left s).length)), .v (.one (.own 4 (L_r05_Advance_0.gone s).length)), .v (.one (.d (.sc (.int .i64 (L_r05_Advance_0.i s))))), .unk, .unk, .unk, .unk, .unk, .unk, .unk, .unk, .unk, .unk, .unk, .unk, .unk, .unk, .unk, .unk, .unk, .unk, .unk, .unk, .unk, .unk, .unk, .unk, .unk, .unk, .unk, .unk, .unk, .unk, .unk, .unk, .unk, .unk, .unk, .unk, .unk, .unk, .unk, .unk, .unk, .unk, .unk, .unk, .unk, .unk, .unk, .unk, .unk], [.box 26 (ddv (Acc.c (L_r05_Advance_0.a_ s))), .box 26 [.d (.sc (.int .i64 (L_r05_Advance_0.sender s))), .d (.sc (.int .i64 (L_r05_Advance_0.base2 s))), .nil], .arr 34 6 ((L_r05_Advance_0.o2 s).map Tx.c), .arr 34 6 ((L_r05_Advance_0.left s).map Tx.c), .arr 34 6 ((L_r05_Advance_0.gone s).map Tx.c)]) := rfl
set_option maxHeartbeats 4000000 in
set_option maxRecDepth 100000 in
theorem an_r05_Advance_0_un {β : Type} (base : Int) (m1_left : Nat) (m2_gone : Nat) (i : Int) (p_a_ : List CV) (sender : Int) (base2 : Int) (p_o2 : List (List DV)) (p_left : List (List DV)) (p_gone : List (List DV)) (f_ : an_r05_Advance_0.σ → Option β) : (an_r05_Advance_0.un [.unk, .v (.one (.d (.sc (.int .i64 base)))), .v (.one (.ptr 0 0 0)), .unk, .v (.one (.ptr 1 0 0)), .unk, .unk, .v (.one (.own 3 m1_left)), .v (.one (.own 4 m2_gone)), .v (.one (.d (.sc (.int .i64 i)))), .unk, .unk, .unk, .unk, .unk, .unk, .unk, .unk, .unk, .unk, .unk, .unk, .unk, .unk, .unk, .unk, .unk, .unk, .unk, .unk, .unk, .unk, .unk, .unk, .unk, .unk, .unk, .unk, .unk, .unk, .unk, .unk, .unk, .unk, .unk, .unk, .unk, .unk, .unk, .unk, .unk, .unk, .unk, .unk, .unk, .unk, .unk, .unk, .unk] [.box 26 p_a_, .box 26 [.d (.sc (.int .i64 sender)), .d (.sc (.int .i64 base2)), .nil], .arr 34 6 p_o2, .arr 34 6 p_left, .arr 34 6 p_gone]).bind f_ = ((allD p_a_).bind dAcc).bind fun a_ => (decL dTx p_o2).bind fun o2 => (decL dTx p_left).bind fun left => (decL dTx p_gone).bind fun gone => (if m1_left = left.length ∧ m2_gone = gone.length then f_ (L_r05_Advance_0.mk base i a_ sender base2 o2 left gone) else none) :=
  (mkAnn_un (σ := L_r05_Advance_0) _ _ _ _ _ _ _ _ _ f_).trans (by simp [Option.bind_assoc, bind_ite])
def T_r05_Advance : List (Nat × LoopA) := [(0, .ty an_r05_Advance_0)]
set_option maxHeartbeats 20000000 in
set_option maxRecDepth 100000 in
noncomputable def pk_r05_Advance : { F : Acc → Int → Option (Acc × (List Tx) × Int) // CallC Go.Proofs.Try.prog 54 (con2 (eT ceAcc) eInt (fun x0 x1 => (F x0 x1).map (res3 (rAgg ceAcc) (rSl ceTx) rI).enc)) } :=
  ⟨_, cc2 E_r05_Advance Go.Proofs.Try.func54 rfl rfl (T := T_r05_Advance) (G := []) (r := (res3 (rAgg ceAcc) (rSl ceTx) rI)) fun x0 x1 => by
    unfold Wf
    simp (maxSteps := 10000000) (implicitDefEqProofs := false) [-evOps, -evOne, -evOp, -evIndexAddr, -evIndex, -evPick, -binV, -evLoad, -evStore, -loadC, -callV, -nilC, -storeC, -toDVs, -toDAs, -resRs, List.lookup, List.replicate, List.range_succ, ty_r05_Advance, C_r05_Advance_ty, C_r05_Advance_eqs, C_r05_Advance_call, C_r05_Advance_calls, C_r05_Advance_scal, C_r05_Advance_owns, C_r05_Advance_vars, C_r05_Advance_ores, C_r05_Advance_flags, C_r05_Advance_pins, C_r05_Advance_inls, T_r05_Advance, Go.Proofs.Try.f54, an_r05_Advance_0_st, an_r05_Advance_0_un, iC, uC, bC, sC, Acc.c, Tx.c]
    try rfl⟩
noncomputable def F_r05_Advance : Acc → Int → Option (Acc × (List Tx) × Int) := pk_r05_Advance.1
noncomputable def M_r05_Advance : List DA → Option (List RV) := con2 (eT ceAcc) eInt (fun x0 x1 => (F_r05_Advance x0 x1).map (res3 (rAgg ceAcc) (rSl ceTx) rI).enc)
theorem cc_r05_Advance : CallC Go.Proofs.Try.prog 54 M_r05_Advance := pk_r05_Advance.2
/-! ### hopper/hopperref05.Check -/
theorem en_r05_Check : Enters Go.Proofs.Try.prog 20 := ⟨_, Go.Proofs.Try.func20, rfl, rfl⟩
def ty_r05_Check : List (Nat × TI) := [(26, { size := 3, bytes := 40, agg := true, zero := [.sc (.int .i64 0), .sc (.int .i64 0), .sl []], kind := .struct [(0, 1, false), (1, 1, false), (2, 1, false)] }), (3, { size := 1, bytes := 8, agg := false, zero := [.sc (.int .i64 0)], kind := .int .i64 }), (24, { size := 1, bytes := 24, agg := false, zero := [.sl []], kind := .slice 34 }), (34, { size := 6, bytes := 56, agg := true, zero := [.sc (.int .i64 0), .sc (.int .i64 0), .sc (.int .i64 0), .sc (.int .i64 0), .sc (.int .i64 0), .sc (.string "".toByteArray)], kind := .struct [(0, 1, false), (1, 1, false), (2, 1, false), (3, 1, false), (4, 1, false), (5, 1, false)] })]
noncomputable def C_r05_Check : Cfg := mkC ty_r05_Check [] [(45, M_r04_Check)] [45] [] [2,5] [] [(7, [false, false, true, true, true, true, true, true, true, true, true, true, true, true, true, true, true, true, true, true, true, true, true, true, true, true, true, true, true, true, true, true, true])]
theorem E_r05_Check : Env1 Go.Proofs.Try.prog C_r05_Check := mkC_ok (by kernel_rfl) (⟨⟨en_r04_Check, cc_r04_Check⟩, trivial⟩) (by kernel_rfl)
theorem C_r05_Check_ty : (C_r05_Check).ty = ty_r05_Check := rfl
theorem C_r05_Check_eqs : (C_r05_Check).eqs = [] := rfl
theorem C_r05_Check_call : (C_r05_Check).call = fun f => (([(45, M_r04_Check)] : List (Nat × (List DA → Option (List RV)))).lookup f).getD fun _ => none := rfl
theorem C_r05_Check_calls : (C_r05_Check).calls = [45] := rfl
theorem C_r05_Check_scal : (C_r05_Check).scal = [45] := rfl
theorem C_r05_Check_owns : (C_r05_Check).owns = [] := rfl
theorem C_r05_Check_vars : (C_r05_Check).vars = [2,5] := rfl
theorem C_r05_Check_ores : (C_r05_Check).ores = [] := rfl
theorem C_r05_Check_flags : (C_r05_Check).flags = [(7, [false, false, true, true, true, true, true, true, true, true, true, true, true, true, true, true, true, true, true, true, true, true, true, true, true, true, true, true, true, true, true, true, true])] := rfl
theorem C_r05_Check_pins : (C_r05_Check).pins = [] := rfl
theorem C_r05_Check_inls : (C_r05_Check).inls = [] := rfl
structure L_r05_Check_0 where
  i : Int
  a_ : Acc
def an_r05_Check_0 : Ann := mkAnn (σ := L_r05_Check_0) (lSkip vUnk <| lSkip vUnk <| lSkip (vOne (cPtr 0 0 0)) <| lSkip vUnk <| lSkip vUnk <| lCons (vOne cI) <| lSkip vUnk <| lSkip vUnk <| lSkip vUnk <| lSkip vUnk <| lSkip vUnk <| lSkip vUnk <| lSkip vUnk <| lSkip vUnk <| lSkip vUnk <| lSkip vUnk <| lSkip vUnk <| lSkip vUnk <| lSkip vUnk <| lSkip vUnk <| lSkip vUnk <| lSkip vUnk <| lSkip vUnk <| lSkip vUnk <| lSkip vUnk <| lSkip vUnk <| lSkip vUnk <| lSkip vUnk <| lSkip vUnk <| lSkip vUnk <| lSkip vUnk <| lSkip vUnk <| lSkip vUnk <| lSkip vUnk <| lSkip vUnk <| lSkip vUnk <| lSkip vUnk <| lSkip vUnk <| lSkip vUnk <| lSkip vUnk <| lSkip vUnk <| lSkip vUnk <| lSkip vUnk <| lSkip vUnk <| lSkip vUnk <| lSkip vUnk <| lSkip vUnk <| lSkip vUnk <| lSkip vUnk <| lSkip vUnk <| lSkip vUnk <| lSkip vUnk <| lSkip vUnk <| lSkip vUnk <| lSkip vUnk <| lSkip vUnk <| lSkip vUnk <| lSkip vUnk <| lSkip vUnk <| lSkip vUnk <| lSkip vUnk <| lSkip vUnk <| lSkip vUnk <| lSkip vUnk <| lSkip vUnk <| lSkip vUnk <| lSkip vUnk <| lSkip vUnk <| lSkip vUnk <| lSkip vUnk <| lSkip vUnk <| lSkip vUnk <| lSkip vUnk <| lSkip vUnk <| lSkip vUnk <| lSkip vUnk <| lSkip vUnk <| lSkip vUnk <| lSkip vUnk <| lSkip vUnk <| lSkip vUnk <| lSkip vUnk <| lSkip vUnk <| lSkip vUnk <| lSkip vUnk <|  lNil) (lCons (oBox 26 (cStr ceAcc)) <|  lNil)
  (fun a b => L_r05_Check_0.mk (a.1) (b.1)) (fun s => (s.i, ())) (fun s => (s.a_, ())) (fun a b => true) (fun _ _ _ => ⟨rfl, rfl⟩)
theorem an_r05_Check_0_st (s : an_r05_Check_0.σ) : an_r05_Check_0.st s = ([.unk, .unk, .v (.one (.ptr 0 0 0)), .unk, .unk, .v (.one (.d (.sc (.int .i64 (L_r05_Check_0.i s))))), .unk, .unk, .unk, .unk, .unk, .unk, .unk, .unk, .unk, .unk, .unk, .unk, .unk, .unk, .unk, .unk, .unk, .unk, .unk, .unk, .unk, .unk, .unk, .unk, .unk, .unk, .unk, .unk, .unk, .unk, .unk, .unk, .unk, .unk, .unk, .unk, .unk, .unk, .unk, .unk, .unk, .unk, .unk, .unk, .unk, .unk, .unk, .unk, .unk, .unk, .unk, .unk, .unk, .unk, .unk, .unk, .unk, .unk, .unk, .unk, .unk, .unk, .unk, .unk, .unk, .unk, .unk, .unk, .unk, .unk, .unk, .unk, .unk, .unk, .unk, .unk, .unk, .unk, .unk], [.box 26 (ddv (Acc.c (L_r05_Check_0.a_ s)))]) := rfl
set_option maxHeartbeats 4000000 in
set_option maxRecDepth 100000 in
theorem an_r05_Check_0_un {β : Type} (i : Int) (p_a_ : List CV) (f_ : an_r05_Check_0.σ → Option β) : (an_r05_Check_0.un [.unk, .unk, .v (.one (.ptr 0 0 0)), .unk, .unk, .v (.one (.d (.sc (.int .i64 i)))), .unk, .unk, .unk, .unk, .unk, .unk, .unk, .unk, .unk, .unk, .unk, .unk, .unk, .unk, .unk, .unk, .unk, .unk, .unk, .unk, .unk, .unk, .unk, .unk, .unk, .unk, .unk, .unk, .unk, .unk, .unk, .unk, .unk, .unk, .unk, .unk, .unk, .unk, .unk, .unk, .unk, .unk, .unk, .unk, .unk, .unk, .unk, .unk, .unk, .unk, .unk, .unk, .unk, .unk, .unk, .unk, .unk, .unk, .unk, .unk, .unk, .unk, .unk, .unk, .unk, .unk, .unk, .unk, .unk, .unk, .unk, .unk, .unk, .unk, .unk, .unk, .unk, .unk, .unk] [.box 26 p_a_]).bind f_ = ((allD p_a_).bind dAcc).bind fun a_ => f_ (L_r05_Check_0.mk i a_) :=
  (mkAnn_un (σ := L_r05_Check_0) _ _ _ _ _ _ _ _ _ f_).trans (by simp [Option.bind_assoc])
def T_r05_Check : List (Nat × LoopA) := [(0, .ty an_r05_Check_0)]
set_option maxHeartbeats 20000000 in
set_option maxRecDepth 100000 in
noncomputable def pk_r05_Check : { F : Acc → Int → Option (Bool) // CallC Go.Proofs.Try.prog 20 (con2 (eT ceAcc) eInt (fun x0 x1 => (F x0 x1).map (res1 rB).enc)) } :=
  ⟨_, cc2 E_r05_Check Go.Proofs.Try.func20 rfl rfl (T := T_r05_Check) (G := []) (r := (res1 rB)) fun x0 x1 => by
    unfold Wf
    simp (maxSteps := 10000000) (implicitDefEqProofs := false) [-evOps, -evOne, -evOp, -evIndexAddr, -evIndex, -evPick, -binV, -evLoad, -evStore, -loadC, -callV, -nilC, -storeC, -toDVs, -toDAs, -resRs, List.lookup, List.replicate, List.range_succ, ty_r05_Check, C_r05_Check_ty, C_r05_Check_eqs, C_r05_Check_call, C_r05_Check_calls, C_r05_Check_scal, C_r05_Check_owns, C_r05_Check_vars, C_r05_Check_ores, C_r05_Check_flags, C_r05_Check_pins, C_r05_Check_inls, T_r05_Check, Go.Proofs.Try.f20, M_r04_Check, an_r05_Check_0_st, an_r05_Check_0_un, iC, uC, bC, sC, Acc.c, Tx.c]
    try rfl⟩
noncomputable def F_r05_Check : Acc → Int → Option (Bool) := pk_r05_Check.1
noncomputable def M_r05_Check : List DA → Option (List RV) := con2 (eT ceAcc) eInt (fun x0 x1 => (F_r05_Check x0 x1).map (res1 rB).enc)
theorem cc_r05_Check : CallC Go.Proofs.Try.prog 20 M_r05_Check := pk_r05_Check.2
/-! ### hopper/hopperref03.Text -/
theorem en_r03_Text : Enters Go.Proofs.Try.prog 48 := ⟨_, Go.Proofs.Try.func48, rfl, rfl⟩
def ty_r03_Text : List (Nat × TI) := [(9, { size := 1, bytes := 16, agg := false, zero := [.sc (.string "".toByteArray)], kind := .str }), (3, { size := 1, bytes := 8, agg := false, zero := [.sc (.int .i64 0)], kind := .int .i64 }), (5, { size := 1, bytes := 1, agg := false, zero := [.sc (.int .u8 0)], kind := .int .u8 }), (105, { size := 1, bytes := 24, agg := false, zero := [.sl []], kind := .slice 5 })]
noncomputable def C_r03_Text : Cfg := mkC ty_r03_Text [] [] [] [] [] [] []
theorem E_r03_Text : Env1 Go.Proofs.Try.prog C_r03_Text := mkC_ok (by kernel_rfl) trivial (by kernel_rfl)
theorem C_r03_Text_ty : (C_r03_Text).ty = ty_r03_Text := rfl
theorem C_r03_Text_eqs : (C_r03_Text).eqs = [] := rfl
theorem C_r03_Text_call : (C_r03_Text).call = fun f => (([] : List (Nat × (List DA → Option (List RV)))).lookup f).getD fun _ => none := rfl
theorem C_r03_Text_calls : (C_r03_Text).calls = [] := rfl
theorem C_r03_Text_scal : (C_r03_Text).scal = [] := rfl
theorem C_r03_Text_owns : (C_r03_Text).owns = [] := rfl
theorem C_r03_Text_vars : (C_r03_Text).vars = [] := rfl
theorem C_r03_Text_ores : (C_r03_Text).ores = [] := rfl
theorem C_r03_Text_flags : (C_r03_Text).flags = [] := rfl
theorem C_r03_Text_pins : (C_r03_Text).pins = [] := rfl
theorem C_r03_Text_inls : (C_r03_Text).inls = [] := rfl
def T_r03_Text : List (Nat × LoopA) := []
set_option maxHeartbeats 20000000 in
set_option maxRecDepth 100000 in
noncomputable def pk_r03_Text : { F : ByteArray → Option (ByteArray) // CallC Go.Proofs.Try.prog 48 (con1 eStr (fun x0 => (F x0).map (res1 rS).enc)) } :=
  ⟨_, cc1 E_r03_Text Go.Proofs.Try.func48 rfl rfl (T := T_r03_Text) (G := []) (r := (res1 rS)) fun x0 => by
    unfold Wf
    simp (maxSteps := 10000000) (implicitDefEqProofs := false) [-evOps, -evOne, -evOp, -evIndexAddr, -evIndex, -evPick, -binV, -evLoad, -evStore, -loadC, -callV, -nilC, -storeC, -toDVs, -toDAs, -resRs, List.lookup, List.replicate, List.range_succ, ty_r03_Text, C_r03_Text_ty, C_r03_Text_eqs, C_r03_Text_call, C_r03_Text_calls, C_r03_Text_scal, C_r03_Text_owns, C_r03_Text_vars, C_r03_Text_ores, C_r03_Text_flags, C_r03_Text_pins, C_r03_Text_inls, T_r03_Text, Go.Proofs.Try.f48, iC, uC, bC, sC]
    try rfl⟩
noncomputable def F_r03_Text : ByteArray → Option (ByteArray) := pk_r03_Text.1
noncomputable def M_r03_Text : List DA → Option (List RV) := con1 eStr (fun x0 => (F_r03_Text x0).map (res1 rS).enc)
theorem cc_r03_Text : CallC Go.Proofs.Try.prog 48 M_r03_Text := pk_r03_Text.2
/-! ### hopper/hopperref03.TakeText -/
theorem en_r03_TakeText : Enters Go.Proofs.Try.prog 60 := ⟨_, Go.Proofs.Try.func60, rfl, rfl⟩
def ty_r03_TakeText : List (Nat × TI) := [(9, { size := 1, bytes := 16, agg := false, zero := [.sc (.string "".toByteArray)], kind := .str }), (3, { size := 1, bytes := 8, agg := false, zero := [.sc (.int .i64 0)], kind := .int .i64 }), (5, { size := 1, bytes := 1, agg := false, zero := [.sc (.int .u8 0)], kind := .int .u8 })]
noncomputable def C_r03_TakeText : Cfg := mkC ty_r03_TakeText [] [] [] [] [] [] [(3, [true, true, true, true, true, true, true, true, true]), (6, [true, true, true, true, true, true, true, true, true, true, true])]
theorem E_r03_TakeText : Env1 Go.Proofs.Try.prog C_r03_TakeText := mkC_ok (by kernel_rfl) trivial (by kernel_rfl)
theorem C_r03_TakeText_ty : (C_r03_TakeText).ty = ty_r03_TakeText := rfl
theorem C_r03_TakeText_eqs : (C_r03_TakeText).eqs = [] := rfl
theorem C_r03_TakeText_call : (C_r03_TakeText).call = fun f => (([] : List (Nat × (List DA → Option (List RV)))).lookup f).getD fun _ => none := rfl
theorem C_r03_TakeText_calls : (C_r03_TakeText).calls = [] := rfl
theorem C_r03_TakeText_scal : (C_r03_TakeText).scal = [] := rfl
theorem C_r03_TakeText_owns : (C_r03_TakeText).owns = [] := rfl
theorem C_r03_TakeText_vars : (C_r03_TakeText).vars = [] := rfl
theorem C_r03_TakeText_ores : (C_r03_TakeText).ores = [] := rfl
theorem C_r03_TakeText_flags : (C_r03_TakeText).flags = [(3, [true, true, true, true, true, true, true, true, true]), (6, [true, true, true, true, true, true, true, true, true, true, true])] := rfl
theorem C_r03_TakeText_pins : (C_r03_TakeText).pins = [] := rfl
theorem C_r03_TakeText_inls : (C_r03_TakeText).inls = [] := rfl
def T_r03_TakeText : List (Nat × LoopA) := []
set_option maxHeartbeats 20000000 in
set_option maxRecDepth 100000 in
noncomputable def pk_r03_TakeText : { F : ByteArray → Int → Option (ByteArray × ByteArray × Bool) // CallC Go.Proofs.Try.prog 60 (con2 eStr eInt (fun x0 x1 => (F x0 x1).map (res3 rS rS rB).enc)) } :=
  ⟨_, cc2 E_r03_TakeText Go.Proofs.Try.func60 rfl rfl (T := T_r03_TakeText) (G := []) (r := (res3 rS rS rB)) fun x0 x1 => by
    unfold Wf
    simp (maxSteps := 10000000) (implicitDefEqProofs := false) [-evOps, -evOne, -evOp, -evIndexAddr, -evIndex, -evPick, -binV, -evLoad, -evStore, -loadC, -callV, -nilC, -storeC, -toDVs, -toDAs, -resRs, List.lookup, List.replicate, List.range_succ, ty_r03_TakeText, C_r03_TakeText_ty, C_r03_TakeText_eqs, C_r03_TakeText_call, C_r03_TakeText_calls, C_r03_TakeText_scal, C_r03_TakeText_owns, C_r03_TakeText_vars, C_r03_TakeText_ores, C_r03_TakeText_flags, C_r03_TakeText_pins, C_r03_TakeText_inls, T_r03_TakeText, Go.Proofs.Try.f60, iC, uC, bC, sC]
    try rfl⟩
noncomputable def F_r03_TakeText : ByteArray → Int → Option (ByteArray × ByteArray × Bool) := pk_r03_TakeText.1
noncomputable def M_r03_TakeText : List DA → Option (List RV) := con2 eStr eInt (fun x0 x1 => (F_r03_TakeText x0 x1).map (res3 rS rS rB).enc)
theorem cc_r03_TakeText : CallC Go.Proofs.Try.prog 60 M_r03_TakeText := pk_r03_TakeText.2
/-! ### hopper/hopperref13.Same -/
theorem en_r13_Same : Enters Go.Proofs.Try.prog 17 := ⟨_, Go.Proofs.Try.func17, rfl, rfl⟩
def ty_r13_Same : List (Nat × TI) := [(41, { size := 9, bytes := 96, agg := true, zero := [.sc (.int .i64 0), .sc (.int .i64 0), .sc (.int .i64 0), .sc (.int .i64 0), .sc (.int .i64 0), .sc (.int .i64 0), .sc (.string "".toByteArray), .sl [], .sc (.int .i64 0)], kind := .struct [(0, 1, false), (1, 6, true), (7, 1, false), (8, 1, false)] }), (32, { size := 1, bytes := 8, agg := false, zero := [.sc (.int .i64 0)], kind := .int .i64 }), (34, { size := 6, bytes := 56, agg := true, zero := [.sc (.int .i64 0), .sc (.int .i64 0), .sc (.int .i64 0), .sc (.int .i64 0), .sc (.int .i64 0), .sc (.string "".toByteArray)], kind := .struct [(0, 1, false), (1, 1, false), (2, 1, false), (3, 1, false), (4, 1, false), (5, 1, false)] }), (3, { size := 1, bytes := 8, agg := false, zero := [.sc (.int .i64 0)], kind := .int .i64 }), (24, { size := 1, bytes := 24, agg := false, zero := [.sl []], kind := .slice 34 })]
noncomputable def C_r13_Same : Cfg := mkC ty_r13_Same [(34, [.i .i64, .i .i64, .i .i64, .i .i64, .i .i64, .s])] [(44, M_r04_Txs)] [44] [] [] [] []
theorem E_r13_Same : Env1 Go.Proofs.Try.prog C_r13_Same := mkC_ok (by kernel_rfl) (⟨⟨en_r04_Txs, cc_r04_Txs⟩, trivial⟩) (by kernel_rfl)
theorem C_r13_Same_ty : (C_r13_Same).ty = ty_r13_Same := rfl
theorem C_r13_Same_eqs : (C_r13_Same).eqs = [(34, [.i .i64, .i .i64, .i .i64, .i .i64, .i .i64, .s])] := rfl
theorem C_r13_Same_call : (C_r13_Same).call = fun f => (([(44, M_r04_Txs)] : List (Nat × (List DA → Option (List RV)))).lookup f).getD fun _ => none := rfl
theorem C_r13_Same_calls : (C_r13_Same).calls = [44] := rfl
theorem C_r13_Same_scal : (C_r13_Same).scal = [44] := rfl
theorem C_r13_Same_owns : (C_r13_Same).owns = [] := rfl
theorem C_r13_Same_vars : (C_r13_Same).vars = [] := rfl
theorem C_r13_Same_ores : (C_r13_Same).ores = [] := rfl
theorem C_r13_Same_flags : (C_r13_Same).flags = [] := rfl
theorem C_r13_Same_pins : (C_r13_Same).pins = [] := rfl
theorem C_r13_Same_inls : (C_r13_Same).inls = [] := rfl
def T_r13_Same : List (Nat × LoopA) := []
set_option maxHeartbeats 20000000 in
set_option maxRecDepth 100000 in
noncomputable def pk_r13_Same : { F : Result → Result → Option (Bool) // CallC Go.Proofs.Try.prog 17 (con2 (eT ceResult) (eT ceResult) (fun x0 x1 => (F x0 x1).map (res1 rB).enc)) } :=
  ⟨_, cc2 E_r13_Same Go.Proofs.Try.func17 rfl rfl (T := T_r13_Same) (G := []) (r := (res1 rB)) fun x0 x1 => by
    unfold Wf
    simp (maxSteps := 10000000) (implicitDefEqProofs := false) [-evOps, -evOne, -evOp, -evIndexAddr, -evIndex, -evPick, -binV, -evLoad, -evStore, -loadC, -callV, -nilC, -storeC, -toDVs, -toDAs, -resRs, List.lookup, List.replicate, List.range_succ, ty_r13_Same, C_r13_Same_ty, C_r13_Same_eqs, C_r13_Same_call, C_r13_Same_calls, C_r13_Same_scal, C_r13_Same_owns, C_r13_Same_vars, C_r13_Same_ores, C_r13_Same_flags, C_r13_Same_pins, C_r13_Same_inls, T_r13_Same, Go.Proofs.Try.f17, M_r04_Txs, iC, uC, bC, sC, Result.c, Tx.c]
    try rfl⟩
noncomputable def F_r13_Same : Result → Result → Option (Bool) := pk_r13_Same.1
noncomputable def M_r13_Same : List DA → Option (List RV) := con2 (eT ceResult) (eT ceResult) (fun x0 x1 => (F_r13_Same x0 x1).map (res1 rB).enc)
theorem cc_r13_Same : CallC Go.Proofs.Try.prog 17 M_r13_Same := pk_r13_Same.2
/-! ### hopper/sat.Raise -/
theorem en_sat_Raise : Enters Go.Proofs.Try.prog 71 := ⟨_, Go.Proofs.Try.func71, rfl, rfl⟩
def ty_sat_Raise : List (Nat × TI) := [(3, { size := 1, bytes := 8, agg := false, zero := [.sc (.int .i64 0)], kind := .int .i64 })]
noncomputable def C_sat_Raise : Cfg := mkC ty_sat_Raise [] [] [] [] [] [] []
theorem E_sat_Raise : Env1 Go.Proofs.Try.prog C_sat_Raise := mkC_ok (by kernel_rfl) trivial (by kernel_rfl)
theorem C_sat_Raise_ty : (C_sat_Raise).ty = ty_sat_Raise := rfl
theorem C_sat_Raise_eqs : (C_sat_Raise).eqs = [] := rfl
theorem C_sat_Raise_call : (C_sat_Raise).call = fun f => (([] : List (Nat × (List DA → Option (List RV)))).lookup f).getD fun _ => none := rfl
theorem C_sat_Raise_calls : (C_sat_Raise).calls = [] := rfl
theorem C_sat_Raise_scal : (C_sat_Raise).scal = [] := rfl
theorem C_sat_Raise_owns : (C_sat_Raise).owns = [] := rfl
theorem C_sat_Raise_vars : (C_sat_Raise).vars = [] := rfl
theorem C_sat_Raise_ores : (C_sat_Raise).ores = [] := rfl
theorem C_sat_Raise_flags : (C_sat_Raise).flags = [] := rfl
theorem C_sat_Raise_pins : (C_sat_Raise).pins = [] := rfl
theorem C_sat_Raise_inls : (C_sat_Raise).inls = [] := rfl
def T_sat_Raise : List (Nat × LoopA) := []
set_option maxHeartbeats 20000000 in
set_option maxRecDepth 100000 in
noncomputable def pk_sat_Raise : { F : Int → Int → Option (Int × Bool) // CallC Go.Proofs.Try.prog 71 (con2 eInt eInt (fun x0 x1 => (F x0 x1).map (res2 rI rB).enc)) } :=
  ⟨_, cc2 E_sat_Raise Go.Proofs.Try.func71 rfl rfl (T := T_sat_Raise) (G := []) (r := (res2 rI rB)) fun x0 x1 => by
    unfold Wf
    simp (maxSteps := 10000000) (implicitDefEqProofs := false) [-evOps, -evOne, -evOp, -evIndexAddr, -evIndex, -evPick, -binV, -evLoad, -evStore, -loadC, -callV, -nilC, -storeC, -toDVs, -toDAs, -resRs, List.lookup, List.replicate, List.range_succ, ty_sat_Raise, C_sat_Raise_ty, C_sat_Raise_eqs, C_sat_Raise_call, C_sat_Raise_calls, C_sat_Raise_scal, C_sat_Raise_owns, C_sat_Raise_vars, C_sat_Raise_ores, C_sat_Raise_flags, C_sat_Raise_pins, C_sat_Raise_inls, T_sat_Raise, Go.Proofs.Try.f71, iC, uC, bC, sC]
    try rfl⟩
noncomputable def F_sat_Raise : Int → Int → Option (Int × Bool) := pk_sat_Raise.1
noncomputable def M_sat_Raise : List DA → Option (List RV) := con2 eInt eInt (fun x0 x1 => (F_sat_Raise x0 x1).map (res2 rI rB).enc)
theorem cc_sat_Raise : CallC Go.Proofs.Try.prog 71 M_sat_Raise := pk_sat_Raise.2
/-! ### hopper/sat.Slots -/
theorem en_sat_Slots : Enters Go.Proofs.Try.prog 81 := ⟨_, Go.Proofs.Try.func81, rfl, rfl⟩
def ty_sat_Slots : List (Nat × TI) := [(3, { size := 1, bytes := 8, agg := false, zero := [.sc (.int .i64 0)], kind := .int .i64 })]
noncomputable def C_sat_Slots : Cfg := mkC ty_sat_Slots [] [] [] [] [] [] []
theorem E_sat_Slots : Env1 Go.Proofs.Try.prog C_sat_Slots := mkC_ok (by kernel_rfl) trivial (by kernel_rfl)
theorem C_sat_Slots_ty : (C_sat_Slots).ty = ty_sat_Slots := rfl
theorem C_sat_Slots_eqs : (C_sat_Slots).eqs = [] := rfl
theorem C_sat_Slots_call : (C_sat_Slots).call = fun f => (([] : List (Nat × (List DA → Option (List RV)))).lookup f).getD fun _ => none := rfl
theorem C_sat_Slots_calls : (C_sat_Slots).calls = [] := rfl
theorem C_sat_Slots_scal : (C_sat_Slots).scal = [] := rfl
theorem C_sat_Slots_owns : (C_sat_Slots).owns = [] := rfl
theorem C_sat_Slots_vars : (C_sat_Slots).vars = [] := rfl
theorem C_sat_Slots_ores : (C_sat_Slots).ores = [] := rfl
theorem C_sat_Slots_flags : (C_sat_Slots).flags = [] := rfl
theorem C_sat_Slots_pins : (C_sat_Slots).pins = [] := rfl
theorem C_sat_Slots_inls : (C_sat_Slots).inls = [] := rfl
def T_sat_Slots : List (Nat × LoopA) := []
set_option maxHeartbeats 20000000 in
set_option maxRecDepth 100000 in
noncomputable def pk_sat_Slots : { F : Int → Option (Int) // CallC Go.Proofs.Try.prog 81 (con1 eInt (fun x0 => (F x0).map (res1 rI).enc)) } :=
  ⟨_, cc1 E_sat_Slots Go.Proofs.Try.func81 rfl rfl (T := T_sat_Slots) (G := []) (r := (res1 rI)) fun x0 => by
    unfold Wf
    simp (maxSteps := 10000000) (implicitDefEqProofs := false) [-evOps, -evOne, -evOp, -evIndexAddr, -evIndex, -evPick, -binV, -evLoad, -evStore, -loadC, -callV, -nilC, -storeC, -toDVs, -toDAs, -resRs, List.lookup, List.replicate, List.range_succ, ty_sat_Slots, C_sat_Slots_ty, C_sat_Slots_eqs, C_sat_Slots_call, C_sat_Slots_calls, C_sat_Slots_scal, C_sat_Slots_owns, C_sat_Slots_vars, C_sat_Slots_ores, C_sat_Slots_flags, C_sat_Slots_pins, C_sat_Slots_inls, T_sat_Slots, Go.Proofs.Try.f81, iC, uC, bC, sC]
    try rfl⟩
noncomputable def F_sat_Slots : Int → Option (Int) := pk_sat_Slots.1
noncomputable def M_sat_Slots : List DA → Option (List RV) := con1 eInt (fun x0 => (F_sat_Slots x0).map (res1 rI).enc)
theorem cc_sat_Slots : CallC Go.Proofs.Try.prog 81 M_sat_Slots := pk_sat_Slots.2
/-! ### hopper/txn.in -/
theorem en_txn_in : Enters Go.Proofs.Try.prog 78 := ⟨_, Go.Proofs.Try.func78, rfl, rfl⟩
def ty_txn_in : List (Nat × TI) := [(3, { size := 1, bytes := 8, agg := false, zero := [.sc (.int .i64 0)], kind := .int .i64 })]
noncomputable def C_txn_in : Cfg := mkC ty_txn_in [] [] [] [] [] [] []
theorem E_txn_in : Env1 Go.Proofs.Try.prog C_txn_in := mkC_ok (by kernel_rfl) trivial (by kernel_rfl)
theorem C_txn_in_ty : (C_txn_in).ty = ty_txn_in := rfl
theorem C_txn_in_eqs : (C_txn_in).eqs = [] := rfl
theorem C_txn_in_call : (C_txn_in).call = fun f => (([] : List (Nat × (List DA → Option (List RV)))).lookup f).getD fun _ => none := rfl
theorem C_txn_in_calls : (C_txn_in).calls = [] := rfl
theorem C_txn_in_scal : (C_txn_in).scal = [] := rfl
theorem C_txn_in_owns : (C_txn_in).owns = [] := rfl
theorem C_txn_in_vars : (C_txn_in).vars = [] := rfl
theorem C_txn_in_ores : (C_txn_in).ores = [] := rfl
theorem C_txn_in_flags : (C_txn_in).flags = [] := rfl
theorem C_txn_in_pins : (C_txn_in).pins = [] := rfl
theorem C_txn_in_inls : (C_txn_in).inls = [] := rfl
def T_txn_in : List (Nat × LoopA) := []
set_option maxHeartbeats 20000000 in
set_option maxRecDepth 100000 in
noncomputable def pk_txn_in : { F : Int → Int → Int → Option (Bool) // CallC Go.Proofs.Try.prog 78 (con3 eInt eInt eInt (fun x0 x1 x2 => (F x0 x1 x2).map (res1 rB).enc)) } :=
  ⟨_, cc3 E_txn_in Go.Proofs.Try.func78 rfl rfl (T := T_txn_in) (G := []) (r := (res1 rB)) fun x0 x1 x2 => by
    unfold Wf
    simp (maxSteps := 10000000) (implicitDefEqProofs := false) [-evOps, -evOne, -evOp, -evIndexAddr, -evIndex, -evPick, -binV, -evLoad, -evStore, -loadC, -callV, -nilC, -storeC, -toDVs, -toDAs, -resRs, List.lookup, List.replicate, List.range_succ, ty_txn_in, C_txn_in_ty, C_txn_in_eqs, C_txn_in_call, C_txn_in_calls, C_txn_in_scal, C_txn_in_owns, C_txn_in_vars, C_txn_in_ores, C_txn_in_flags, C_txn_in_pins, C_txn_in_inls, T_txn_in, Go.Proofs.Try.f78, iC, uC, bC, sC]
    try rfl⟩
noncomputable def F_txn_in : Int → Int → Int → Option (Bool) := pk_txn_in.1
noncomputable def M_txn_in : List DA → Option (List RV) := con3 eInt eInt eInt (fun x0 x1 x2 => (F_txn_in x0 x1 x2).map (res1 rB).enc)
theorem cc_txn_in : CallC Go.Proofs.Try.prog 78 M_txn_in := pk_txn_in.2
/-! ### hopper/txn.Check -/
theorem en_txn_Check : Enters Go.Proofs.Try.prog 58 := ⟨_, Go.Proofs.Try.func58, rfl, rfl⟩
def ty_txn_Check : List (Nat × TI) := [(34, { size := 6, bytes := 56, agg := true, zero := [.sc (.int .i64 0), .sc (.int .i64 0), .sc (.int .i64 0), .sc (.int .i64 0), .sc (.int .i64 0), .sc (.string "".toByteArray)], kind := .struct [(0, 1, false), (1, 1, false), (2, 1, false), (3, 1, false), (4, 1, false), (5, 1, false)] }), (3, { size := 1, bytes := 8, agg := false, zero := [.sc (.int .i64 0)], kind := .int .i64 }), (9, { size := 1, bytes := 16, agg := false, zero := [.sc (.string "".toByteArray)], kind := .str })]
noncomputable def C_txn_Check : Cfg := mkC ty_txn_Check [] [(78, M_txn_in)] [78] [] [] [] []
theorem E_txn_Check : Env1 Go.Proofs.Try.prog C_txn_Check := mkC_ok (by kernel_rfl) (⟨⟨en_txn_in, cc_txn_in⟩, trivial⟩) (by kernel_rfl)
theorem C_txn_Check_ty : (C_txn_Check).ty = ty_txn_Check := rfl
theorem C_txn_Check_eqs : (C_txn_Check).eqs = [] := rfl
theorem C_txn_Check_call : (C_txn_Check).call = fun f => (([(78, M_txn_in)] : List (Nat × (List DA → Option (List RV)))).lookup f).getD fun _ => none := rfl
theorem C_txn_Check_calls : (C_txn_Check).calls = [78] := rfl
theorem C_txn_Check_scal : (C_txn_Check).scal = [78] := rfl
theorem C_txn_Check_owns : (C_txn_Check).owns = [] := rfl
theorem C_txn_Check_vars : (C_txn_Check).vars = [] := rfl
theorem C_txn_Check_ores : (C_txn_Check).ores = [] := rfl
theorem C_txn_Check_flags : (C_txn_Check).flags = [] := rfl
theorem C_txn_Check_pins : (C_txn_Check).pins = [] := rfl
theorem C_txn_Check_inls : (C_txn_Check).inls = [] := rfl
def T_txn_Check : List (Nat × LoopA) := []
set_option maxHeartbeats 20000000 in
set_option maxRecDepth 100000 in
noncomputable def pk_txn_Check : { F : Tx → Option (Bool) // CallC Go.Proofs.Try.prog 58 (con1 (eT ceTx) (fun x0 => (F x0).map (res1 rB).enc)) } :=
  ⟨_, cc1 E_txn_Check Go.Proofs.Try.func58 rfl rfl (T := T_txn_Check) (G := []) (r := (res1 rB)) fun x0 => by
    unfold Wf
    simp (maxSteps := 10000000) (implicitDefEqProofs := false) [-evOps, -evOne, -evOp, -evIndexAddr, -evIndex, -evPick, -binV, -evLoad, -evStore, -loadC, -callV, -nilC, -storeC, -toDVs, -toDAs, -resRs, List.lookup, List.replicate, List.range_succ, ty_txn_Check, C_txn_Check_ty, C_txn_Check_eqs, C_txn_Check_call, C_txn_Check_calls, C_txn_Check_scal, C_txn_Check_owns, C_txn_Check_vars, C_txn_Check_ores, C_txn_Check_flags, C_txn_Check_pins, C_txn_Check_inls, T_txn_Check, Go.Proofs.Try.f58, M_txn_in, iC, uC, bC, sC, Tx.c]
    try rfl⟩
noncomputable def F_txn_Check : Tx → Option (Bool) := pk_txn_Check.1
noncomputable def M_txn_Check : List DA → Option (List RV) := con1 (eT ceTx) (fun x0 => (F_txn_Check x0).map (res1 rB).enc)
theorem cc_txn_Check : CallC Go.Proofs.Try.prog 58 M_txn_Check := pk_txn_Check.2
/-! ### hopper/queue.in -/
theorem en_queue_in : Enters Go.Proofs.Try.prog 69 := ⟨_, Go.Proofs.Try.func69, rfl, rfl⟩
def ty_queue_in : List (Nat × TI) := [(3, { size := 1, bytes := 8, agg := false, zero := [.sc (.int .i64 0)], kind := .int .i64 })]
noncomputable def C_queue_in : Cfg := mkC ty_queue_in [] [] [] [] [] [] []
theorem E_queue_in : Env1 Go.Proofs.Try.prog C_queue_in := mkC_ok (by kernel_rfl) trivial (by kernel_rfl)
theorem C_queue_in_ty : (C_queue_in).ty = ty_queue_in := rfl
theorem C_queue_in_eqs : (C_queue_in).eqs = [] := rfl
theorem C_queue_in_call : (C_queue_in).call = fun f => (([] : List (Nat × (List DA → Option (List RV)))).lookup f).getD fun _ => none := rfl
theorem C_queue_in_calls : (C_queue_in).calls = [] := rfl
theorem C_queue_in_scal : (C_queue_in).scal = [] := rfl
theorem C_queue_in_owns : (C_queue_in).owns = [] := rfl
theorem C_queue_in_vars : (C_queue_in).vars = [] := rfl
theorem C_queue_in_ores : (C_queue_in).ores = [] := rfl
theorem C_queue_in_flags : (C_queue_in).flags = [] := rfl
theorem C_queue_in_pins : (C_queue_in).pins = [] := rfl
theorem C_queue_in_inls : (C_queue_in).inls = [] := rfl
def T_queue_in : List (Nat × LoopA) := []
set_option maxHeartbeats 20000000 in
set_option maxRecDepth 100000 in
noncomputable def pk_queue_in : { F : Int → Int → Int → Option (Bool) // CallC Go.Proofs.Try.prog 69 (con3 eInt eInt eInt (fun x0 x1 x2 => (F x0 x1 x2).map (res1 rB).enc)) } :=
  ⟨_, cc3 E_queue_in Go.Proofs.Try.func69 rfl rfl (T := T_queue_in) (G := []) (r := (res1 rB)) fun x0 x1 x2 => by
    unfold Wf
    simp (maxSteps := 10000000) (implicitDefEqProofs := false) [-evOps, -evOne, -evOp, -evIndexAddr, -evIndex, -evPick, -binV, -evLoad, -evStore, -loadC, -callV, -nilC, -storeC, -toDVs, -toDAs, -resRs, List.lookup, List.replicate, List.range_succ, ty_queue_in, C_queue_in_ty, C_queue_in_eqs, C_queue_in_call, C_queue_in_calls, C_queue_in_scal, C_queue_in_owns, C_queue_in_vars, C_queue_in_ores, C_queue_in_flags, C_queue_in_pins, C_queue_in_inls, T_queue_in, Go.Proofs.Try.f69, iC, uC, bC, sC]
    try rfl⟩
noncomputable def F_queue_in : Int → Int → Int → Option (Bool) := pk_queue_in.1
noncomputable def M_queue_in : List DA → Option (List RV) := con3 eInt eInt eInt (fun x0 x1 x2 => (F_queue_in x0 x1 x2).map (res1 rB).enc)
theorem cc_queue_in : CallC Go.Proofs.Try.prog 69 M_queue_in := pk_queue_in.2
/-! ### hopper/queue.Check -/
theorem en_queue_Check : Enters Go.Proofs.Try.prog 68 := ⟨_, Go.Proofs.Try.func68, rfl, rfl⟩
def ty_queue_Check : List (Nat × TI) := [(26, { size := 3, bytes := 40, agg := true, zero := [.sc (.int .i64 0), .sc (.int .i64 0), .sl []], kind := .struct [(0, 1, false), (1, 1, false), (2, 1, false)] }), (3, { size := 1, bytes := 8, agg := false, zero := [.sc (.int .i64 0)], kind := .int .i64 }), (24, { size := 1, bytes := 24, agg := false, zero := [.sl []], kind := .slice 34 }), (34, { size := 6, bytes := 56, agg := true, zero := [.sc (.int .i64 0), .sc (.int .i64 0), .sc (.int .i64 0), .sc (.int .i64 0), .sc (.int .i64 0), .sc (.string "".toByteArray)], kind := .struct [(0, 1, false), (1, 1, false), (2, 1, false), (3, 1, false), (4, 1, false), (5, 1, false)] })]
noncomputable def C_queue_Check : Cfg := mkC ty_queue_Check [] [(69, M_queue_in), (58, M_txn_Check)] [69, 58] [] [2,5,33,34,35] [] []
theorem E_queue_Check : Env1 Go.Proofs.Try.prog C_queue_Check := mkC_ok (by kernel_rfl) (⟨⟨en_queue_in, cc_queue_in⟩, ⟨⟨en_txn_Check, cc_txn_Check⟩, trivial⟩⟩) (by kernel_rfl)
theorem C_queue_Check_ty : (C_queue_Check).ty = ty_queue_Check := rfl
theorem C_queue_Check_eqs : (C_queue_Check).eqs = [] := rfl
theorem C_queue_Check_call : (C_queue_Check).call = fun f => (([(69, M_queue_in), (58, M_txn_Check)] : List (Nat × (List DA → Option (List RV)))).lookup f).getD fun _ => none := rfl
theorem C_queue_Check_calls : (C_queue_Check).calls = [69, 58] := rfl
theorem C_queue_Check_scal : (C_queue_Check).scal = [69, 58] := rfl
theorem C_queue_Check_owns : (C_queue_Check).owns = [] := rfl
theorem C_queue_Check_vars : (C_queue_Check).vars = [2,5,33,34,35] := rfl
theorem C_queue_Check_ores : (C_queue_Check).ores = [] := rfl
theorem C_queue_Check_flags : (C_queue_Check).flags = [] := rfl
theorem C_queue_Check_pins : (C_queue_Check).pins = [] := rfl
theorem C_queue_Check_inls : (C_queue_Check).inls = [] := rfl
structure L_queue_Check_0 where
  next : Int
  v33 : List Tx
  v34 : Int
  v35 : Int
  a_ : Acc
def an_queue_Check_0 : Ann := mkAnn (σ := L_queue_Check_0) (lSkip vUnk <| lSkip vUnk <| lSkip (vOne (cPtr 0 0 0)) <| lSkip vUnk <| lSkip vUnk <| lCons (vOne cI) <| lSkip vUnk <| lSkip vUnk <| lSkip vUnk <| lSkip vUnk <| lSkip vUnk <| lSkip vUnk <| lSkip vUnk <| lSkip vUnk <| lSkip vUnk <| lSkip vUnk <| lSkip vUnk <| lSkip vUnk <| lSkip vUnk <| lSkip vUnk <| lSkip vUnk <| lSkip vUnk <| lSkip vUnk <| lSkip vUnk <| lSkip vUnk <| lSkip vUnk <| lSkip vUnk <| lSkip vUnk <| lSkip vUnk <| lSkip vUnk <| lSkip vUnk <| lSkip vUnk <| lSkip vUnk <| lCons (vOne (cSl ceTx)) <| lCons (vOne cI) <| lCons (vOne cI) <| lSkip vUnk <| lSkip vUnk <| lSkip vUnk <| lSkip vUnk <| lSkip vUnk <| lSkip vUnk <| lSkip vUnk <| lSkip vUnk <| lSkip vUnk <| lSkip vUnk <| lSkip vUnk <| lSkip vUnk <| lSkip vUnk <| lSkip vUnk <| lSkip vUnk <| lSkip vUnk <| lSkip vUnk <| lSkip vUnk <| lSkip vUnk <| lSkip vUnk <| lSkip vUnk <| lSkip vUnk <| lSkip vUnk <|  lNil) (lCons (oBox 26 (cStr ceAcc)) <|  lNil)
  (fun a b => L_queue_Check_0.mk (a.1) (a.2.1) (a.2.2.1) (a.2.2.2.1) (b.1)) (fun s => (s.next, s.v33, s.v34, s.v35, ())) (fun s => (s.a_, ())) (fun a b => true) (fun _ _ _ => ⟨rfl, rfl⟩)
theorem an_queue_Check_0_st (s : an_queue_Check_0.σ) : an_queue_Check_0.st s = ([.unk, .unk, .v (.one (.ptr 0 0 0)), .unk, .unk, .v (.one (.d (.sc (.int .i64 (L_queue_Check_0.next s))))), .unk, .unk, .unk, .unk, .unk, .unk, .unk, .unk, .unk, .unk, .unk, .unk, .unk, .unk, .unk, .unk, .unk, .unk, .unk, .unk, .unk, .unk, .unk, .unk, .unk, .unk, .unk, .v (.one (.d (.sl ((L_queue_Check_0.v33 s).map Tx.c)))), .v (.one (.d (.sc (.int .i64 (L_queue_Check_0.v34 s))))), .v (.one (.d (.sc (.int .i64 (L_queue_Check_0.v35 s))))), .unk, .unk, .unk, .unk, .unk, .unk, .unk, .unk, .unk, .unk, .unk, .unk, .unk, .unk, .unk, .unk, .unk, .unk, .unk, .unk, .unk, .unk, .unk], [.box 26 (ddv (Acc.c (L_queue_Check_0.a_ s)))]) := rfl
set_option maxHeartbeats 4000000 in
set_option maxRecDepth 100000 in
theorem an_queue_Check_0_un {β : Type} (next : Int) (p_v33 : List (List DV)) (v34 : Int) (v35 : Int) (p_a_ : List CV) (f_ : an_queue_Check_0.σ → Option β) : (an_queue_Check_0.un [.unk, .unk, .v (.one (.ptr 0 0 0)), .unk, .unk, .v (.one (.d (.sc (.int .i64 next)))), .unk, .unk, .unk, .unk, .unk, .unk, .unk, .unk, .unk, .unk, .unk, .unk, .unk, .unk, .unk, .unk, .unk, .unk, .unk, .unk, .unk, .unk, .unk, .unk, .unk, .unk, .unk, .v (.one (.d (.sl p_v33))), .v (.one (.d (.sc (.int .i64 v34)))), .v (.one (.d (.sc (.int .i64 v35)))), .unk, .unk, .unk, .unk, .unk, .unk, .unk, .unk, .unk, .unk, .unk, .unk, .unk, .unk, .unk, .unk, .unk, .unk, .unk, .unk, .unk, .unk, .unk] [.box 26 p_a_]).bind f_ = (decL dTx p_v33).bind fun v33 => ((allD p_a_).bind dAcc).bind fun a_ => f_ (L_queue_Check_0.mk next v33 v34 v35 a_) :=
  (mkAnn_un (σ := L_queue_Check_0) _ _ _ _ _ _ _ _ _ f_).trans (by simp [Option.bind_assoc])
def T_queue_Check : List (Nat × LoopA) := [(0, .ty an_queue_Check_0)]
set_option maxHeartbeats 20000000 in
set_option maxRecDepth 100000 in
noncomputable def pk_queue_Check : { F : Acc → Int → Option (Bool) // CallC Go.Proofs.Try.prog 68 (con2 (eT ceAcc) eInt (fun x0 x1 => (F x0 x1).map (res1 rB).enc)) } :=
  ⟨_, cc2 E_queue_Check Go.Proofs.Try.func68 rfl rfl (T := T_queue_Check) (G := []) (r := (res1 rB)) fun x0 x1 => by
    unfold Wf
    simp (maxSteps := 10000000) (implicitDefEqProofs := false) [-evOps, -evOne, -evOp, -evIndexAddr, -evIndex, -evPick, -binV, -evLoad, -evStore, -loadC, -callV, -nilC, -storeC, -toDVs, -toDAs, -resRs, List.lookup, List.replicate, List.range_succ, ty_queue_Check, C_queue_Check_ty, C_queue_Check_eqs, C_queue_Check_call, C_queue_Check_calls, C_queue_Check_scal, C_queue_Check_owns, C_queue_Check_vars, C_queue_Check_ores, C_queue_Check_flags, C_queue_Check_pins, C_queue_Check_inls, T_queue_Check, Go.Proofs.Try.f68, M_queue_in, M_txn_Check, an_queue_Check_0_st, an_queue_Check_0_un, iC, uC, bC, sC, Acc.c, Tx.c]
    try rfl⟩
noncomputable def F_queue_Check : Acc → Int → Option (Bool) := pk_queue_Check.1
noncomputable def M_queue_Check : List DA → Option (List RV) := con2 (eT ceAcc) eInt (fun x0 x1 => (F_queue_Check x0 x1).map (res1 rB).enc)
theorem cc_queue_Check : CallC Go.Proofs.Try.prog 68 M_queue_Check := pk_queue_Check.2
/-! ### hopper/queue.Find -/
theorem en_queue_Find : Enters Go.Proofs.Try.prog 37 := ⟨_, Go.Proofs.Try.func37, rfl, rfl⟩
def ty_queue_Find : List (Nat × TI) := [(26, { size := 3, bytes := 40, agg := true, zero := [.sc (.int .i64 0), .sc (.int .i64 0), .sl []], kind := .struct [(0, 1, false), (1, 1, false), (2, 1, false)] }), (34, { size := 6, bytes := 56, agg := true, zero := [.sc (.int .i64 0), .sc (.int .i64 0), .sc (.int .i64 0), .sc (.int .i64 0), .sc (.int .i64 0), .sc (.string "".toByteArray)], kind := .struct [(0, 1, false), (1, 1, false), (2, 1, false), (3, 1, false), (4, 1, false), (5, 1, false)] }), (24, { size := 1, bytes := 24, agg := false, zero := [.sl []], kind := .slice 34 }), (3, { size := 1, bytes := 8, agg := false, zero := [.sc (.int .i64 0)], kind := .int .i64 })]
noncomputable def C_queue_Find : Cfg := mkC ty_queue_Find [] [(61, M_queue_place)] [61] [] [] [] []
theorem E_queue_Find : Env1 Go.Proofs.Try.prog C_queue_Find := mkC_ok (by kernel_rfl) (⟨⟨en_queue_place, cc_queue_place⟩, trivial⟩) (by kernel_rfl)
theorem C_queue_Find_ty : (C_queue_Find).ty = ty_queue_Find := rfl
theorem C_queue_Find_eqs : (C_queue_Find).eqs = [] := rfl
theorem C_queue_Find_call : (C_queue_Find).call = fun f => (([(61, M_queue_place)] : List (Nat × (List DA → Option (List RV)))).lookup f).getD fun _ => none := rfl
theorem C_queue_Find_calls : (C_queue_Find).calls = [61] := rfl
theorem C_queue_Find_scal : (C_queue_Find).scal = [61] := rfl
theorem C_queue_Find_owns : (C_queue_Find).owns = [] := rfl
theorem C_queue_Find_vars : (C_queue_Find).vars = [] := rfl
theorem C_queue_Find_ores : (C_queue_Find).ores = [] := rfl
theorem C_queue_Find_flags : (C_queue_Find).flags = [] := rfl
theorem C_queue_Find_pins : (C_queue_Find).pins = [] := rfl
theorem C_queue_Find_inls : (C_queue_Find).inls = [] := rfl
def T_queue_Find : List (Nat × LoopA) := []
set_option maxHeartbeats 20000000 in
set_option maxRecDepth 100000 in
noncomputable def pk_queue_Find : { F : Acc → Int → Option (Tx × Bool) // CallC Go.Proofs.Try.prog 37 (con2 (eT ceAcc) eInt (fun x0 x1 => (F x0 x1).map (res2 (rAgg ceTx) rB).enc)) } :=
  ⟨_, cc2 E_queue_Find Go.Proofs.Try.func37 rfl rfl (T := T_queue_Find) (G := []) (r := (res2 (rAgg ceTx) rB)) fun x0 x1 => by
    unfold Wf
    simp (maxSteps := 10000000) (implicitDefEqProofs := false) [-evOps, -evOne, -evOp, -evIndexAddr, -evIndex, -evPick, -binV, -evLoad, -evStore, -loadC, -callV, -nilC, -storeC, -toDVs, -toDAs, -resRs, List.lookup, List.replicate, List.range_succ, ty_queue_Find, C_queue_Find_ty, C_queue_Find_eqs, C_queue_Find_call, C_queue_Find_calls, C_queue_Find_scal, C_queue_Find_owns, C_queue_Find_vars, C_queue_Find_ores, C_queue_Find_flags, C_queue_Find_pins, C_queue_Find_inls, T_queue_Find, Go.Proofs.Try.f37, M_queue_place, iC, uC, bC, sC, Acc.c, Tx.c]
    try rfl⟩
noncomputable def F_queue_Find : Acc → Int → Option (Tx × Bool) := pk_queue_Find.1
noncomputable def M_queue_Find : List DA → Option (List RV) := con2 (eT ceAcc) eInt (fun x0 x1 => (F_queue_Find x0 x1).map (res2 (rAgg ceTx) rB).enc)
theorem cc_queue_Find : CallC Go.Proofs.Try.prog 37 M_queue_Find := pk_queue_Find.2
/-! ### hopper/queue.Advance -/
theorem en_queue_Advance : Enters Go.Proofs.Try.prog 51 := ⟨_, Go.Proofs.Try.func51, rfl, rfl⟩
def ty_queue_Advance : List (Nat × TI) := [(26, { size := 3, bytes := 40, agg := true, zero := [.sc (.int .i64 0), .sc (.int .i64 0), .sl []], kind := .struct [(0, 1, false), (1, 1, false), (2, 1, false)] }), (24, { size := 1, bytes := 24, agg := false, zero := [.sl []], kind := .slice 34 }), (3, { size := 1, bytes := 8, agg := false, zero := [.sc (.int .i64 0)], kind := .int .i64 }), (34, { size := 6, bytes := 56, agg := true, zero := [.sc (.int .i64 0), .sc (.int .i64 0), .sc (.int .i64 0), .sc (.int .i64 0), .sc (.int .i64 0), .sc (.string "".toByteArray)], kind := .struct [(0, 1, false), (1, 1, false), (2, 1, false), (3, 1, false), (4, 1, false), (5, 1, false)] })]
noncomputable def C_queue_Advance : Cfg := mkC ty_queue_Advance [] [(69, M_queue_in)] [69] [(5, [(0, 34, 6)]), (7, [(0, 34, 6)]), (8, [(0, 34, 6)])] [1,2,4,7,8,23,24,25] [] []
theorem E_queue_Advance : Env1 Go.Proofs.Try.prog C_queue_Advance := mkC_ok (by kernel_rfl) (⟨⟨en_queue_in, cc_queue_in⟩, trivial⟩) (by kernel_rfl)
theorem C_queue_Advance_ty : (C_queue_Advance).ty = ty_queue_Advance := rfl
theorem C_queue_Advance_eqs : (C_queue_Advance).eqs = [] := rfl
theorem C_queue_Advance_call : (C_queue_Advance).call = fun f => (([(69, M_queue_in)] : List (Nat × (List DA → Option (List RV)))).lookup f).getD fun _ => none := rfl
theorem C_queue_Advance_calls : (C_queue_Advance).calls = [69] := rfl
theorem C_queue_Advance_scal : (C_queue_Advance).scal = [69] := rfl
theorem C_queue_Advance_owns : (C_queue_Advance).owns = [(5, [(0, 34, 6)]), (7, [(0, 34, 6)]), (8, [(0, 34, 6)])] := rfl
theorem C_queue_Advance_vars : (C_queue_Advance).vars = [1,2,4,7,8,23,24,25] := rfl
theorem C_queue_Advance_ores : (C_queue_Advance).ores = [] := rfl
theorem C_queue_Advance_flags : (C_queue_Advance).flags = [] := rfl
theorem C_queue_Advance_pins : (C_queue_Advance).pins = [] := rfl
theorem C_queue_Advance_inls : (C_queue_Advance).inls = [] := rfl
structure L_queue_Advance_1 where
  base : Int
  v23 : List Tx
  v24 : Int
  v25 : Int
  a_ : Acc
  sender : Int
  base2 : Int
  o2 : List Tx
  left : List Tx
  gone : List Tx
def an_queue_Advance_1 : Ann := mkAnn (σ := L_queue_Advance_1) (lSkip vUnk <| lCons (vOne cI) <| lSkip (vOne (cPtr 0 0 0)) <| lSkip vUnk <| lSkip (vOne (cPtr 1 0 0)) <| lSkip vUnk <| lSkip vUnk <| lCons (vOne (cOwn 3)) <| lCons (vOne (cOwn 4)) <| lSkip vUnk <| lSkip vUnk <| lSkip vUnk <| lSkip vUnk <| lSkip vUnk <| lSkip vUnk <| lSkip vUnk <| lSkip vUnk <| lSkip vUnk <| lSkip vUnk <| lSkip vUnk <| lSkip vUnk <| lSkip vUnk <| lSkip vUnk <| lCons (vOne (cSl ceTx)) <| lCons (vOne cI) <| lCons (vOne cI) <| lSkip vUnk <| lSkip vUnk <| lSkip vUnk <| lSkip vUnk <| lSkip vUnk <| lSkip vUnk <| lSkip vUnk <| lSkip vUnk <| lSkip vUnk <| lSkip vUnk <| lSkip vUnk <| lSkip vUnk <| lSkip vUnk <| lSkip vUnk <| lSkip vUnk <| lSkip vUnk <| lSkip vUnk <| lSkip vUnk <| lSkip vUnk <| lSkip vUnk <| lSkip vUnk <| lSkip vUnk <|  lNil) (lCons (oBox 26 (cStr ceAcc)) <| lCons (oBox 26 (lCons cI <| lCons cI <| lSkip cNil <|  lNil)) <| lCons (oArr 34 6 ceTx) <| lCons (oArr 34 6 ceTx) <| lCons (oArr 34 6 ceTx) <|  lNil)
  (fun a b => L_queue_Advance_1.mk (a.1) (a.2.2.2.1) (a.2.2.2.2.1) (a.2.2.2.2.2.1) (b.1) (b.2.1.1) (b.2.1.2.1) (b.2.2.1) (b.2.2.2.1) (b.2.2.2.2.1)) (fun s => (s.base, s.left.length, s.gone.length, s.v23, s.v24, s.v25, ())) (fun s => (s.a_, (s.sender, s.base2, ()), s.o2, s.left, s.gone, ())) (fun a b => decide (a.2.1 = (b.2.2.2.1).length) && decide (a.2.2.1 = (b.2.2.2.2.1).length)) (by rintro ⟨a0, a1, a2, a3, a4, a5, _⟩ ⟨b0, ⟨c1_0, c1_1, _⟩, b2, b3, b4, _⟩ h; simp at h; simp [h])
theorem an_queue_Advance_1_st (s : an_queue_Advance_1.σ) : an_queue_Advance_1.st s = ([.unk, .v (.one (.d (.sc (.int .i64 (L_queue_Advance_1.base s))))), .v (.one (.ptr 0 0 0)), .unk, .v (.one (.ptr 1 0 0)), .unk, .unk, .v (.one (.own 3 (L_queue_Advance_1.left s).length)), .v (.one (.own 4 (L_queue_Advance_1.gone s).length)), .unk, .unk, .unk, .unk, .unk, .unk, .unk, .unk, .unk, .unk, .unk, .unk, .unk, .unk, .v (.one (.d (.sl ((L_queue_Advance_1.v23 s).map Tx.c)))), .v (.one (.d (.sc (.int .i64 (L_queue_Advance_1.v24 s))))), .v (.one (.d (.sc (.int .i64 (L_queue_Advance_1.v25 s))))), .unk, .unk, .unk, .unk, .unk, .unk, .unk, .unk, .unk, .unk, .unk, .unk, .unk, .unk, .unk, .unk, .unk, .unk, .unk, .unk, .unk, .unk], [.box 26 (ddv (Acc.c (L_queue_Advance_1.a_ s))), .box 26 [.d (.sc (.int .i64 (L_queue_Advance_1.sender s))), .d (.sc (.int .i64 (L_queue_Advance_1.base2 s))), .nil], .arr 34 6 ((L_queue_Advance_1.o2 s).map Tx.c), .arr 34 6 ((L_queue_Advance_1.left s).map Tx.c), .arr 34 6 ((L_queue_Advance_1.gone s).map Tx.c)]) := rfl
set_option maxHeartbeats 4000000 in
set_option maxRecDepth 100000 in
theorem an_queue_Advance_1_un {β : Type} (base : Int) (m1_left : Nat) (m2_gone : Nat) (p_v23 : List (List DV)) (v24 : Int) (v25 : Int) (p_a_ : List CV) (sender : Int) (base2 : Int) (p_o2 : List (List DV)) (p_left : List (List DV)) (p_gone : List (List DV)) (f_ : an_queue_Advance_1.σ → Option β) : (an_queue_Advance_1.un [.unk, .v (.one (.d (.sc (.int .i64 base)))), .v (.one (.ptr 0 0 0)), .unk, .v (.one (.ptr 1 0 0)), .unk, .unk, .v (.one (.own 3 m1_left)), .v (.one (.own 4 m2_gone)), .unk, .unk, .unk, .unk, .unk, .unk, .unk, .unk, .unk, .unk, .unk, .unk, .unk, .unk, .v (.one (.d (.sl p_v23))), .v (.one (.d (.sc (.int .i64 v24)))), .v (.one (.d (.sc (.int .i64 v25)))), .unk, .unk, .unk, .unk, .unk, .unk, .unk, .unk, .unk, .unk, .unk, .unk, .unk, .unk, .unk, .unk, .unk, .unk, .unk, .unk, .unk, .unk] [.box 26 p_a_, .box 26 [.d (.sc (.int .i64 sender)), .d (.sc (.int .i64 base2)), .nil], .arr 34 6 p_o2, .arr 34 6 p_left, .arr 34 6 p_gone]).bind f_ = (decL dTx p_v23).bind fun v23 => ((allD p_a_).bind dAcc).bind fun a_ => (decL dTx p_o2).bind fun o2 => (decL dTx p_left).bind fun left => (decL dTx p_gone).bind fun gone => (if m1_left = left.length ∧ m2_gone = gone.length then f_ (L_queue_Advance_1.mk base v23 v24 v25 a_ sender base2 o2 left gone) else none) :=
  (mkAnn_un (σ := L_queue_Advance_1) _ _ _ _ _ _ _ _ _ f_).trans (by simp [Option.bind_assoc, bind_ite])
def T_queue_Advance : List (Nat × LoopA) := [(1, .ty an_queue_Advance_1)]
set_option maxHeartbeats 20000000 in
set_option maxRecDepth 100000 in
noncomputable def pk_queue_Advance : { F : Acc → Int → Option (Acc × (List Tx) × Int) // CallC Go.Proofs.Try.prog 51 (con2 (eT ceAcc) eInt (fun x0 x1 => (F x0 x1).map (res3 (rAgg ceAcc) (rSl ceTx) rI).enc)) } :=
  ⟨_, cc2 E_queue_Advance Go.Proofs.Try.func51 rfl rfl (T := T_queue_Advance) (G := []) (r := (res3 (rAgg ceAcc) (rSl ceTx) rI)) fun x0 x1 => by
    unfold Wf
    simp (maxSteps := 10000000) (implicitDefEqProofs := false) [-evOps, -evOne, -evOp, -evIndexAddr, -evIndex, -evPick, -binV, -evLoad, -evStore, -loadC, -callV, -nilC, -storeC, -toDVs, -toDAs, -resRs, List.lookup, List.replicate, List.range_succ, ty_queue_Advance, C_queue_Advance_ty, C_queue_Advance_eqs, C_queue_Advance_call, C_queue_Advance_calls, C_queue_Advance_scal, C_queue_Advance_owns, C_queue_Advance_vars, C_queue_Advance_ores, C_queue_Advance_flags, C_queue_Advance_pins, C_queue_Advance_inls, T_queue_Advance, Go.Proofs.Try.f51, M_queue_in, an_queue_Advance_1_st, an_queue_Advance_1_un, iC, uC, bC, sC, Acc.c, Tx.c]
    try rfl⟩
noncomputable def F_queue_Advance : Acc → Int → Option (Acc × (List Tx) × Int) := pk_queue_Advance.1
noncomputable def M_queue_Advance : List DA → Option (List RV) := con2 (eT ceAcc) eInt (fun x0 x1 => (F_queue_Advance x0 x1).map (res3 (rAgg ceAcc) (rSl ceTx) rI).enc)
theorem cc_queue_Advance : CallC Go.Proofs.Try.prog 51 M_queue_Advance := pk_queue_Advance.2
/-! ### hopper/codec.Text -/
theorem en_codec_Text : Enters Go.Proofs.Try.prog 86 := ⟨_, Go.Proofs.Try.func86, rfl, rfl⟩
def ty_codec_Text : List (Nat × TI) := [(9, { size := 1, bytes := 16, agg := false, zero := [.sc (.string "".toByteArray)], kind := .str }), (3, { size := 1, bytes := 8, agg := false, zero := [.sc (.int .i64 0)], kind := .int .i64 }), (5, { size := 1, bytes := 1, agg := false, zero := [.sc (.int .u8 0)], kind := .int .u8 }), (105, { size := 1, bytes := 24, agg := false, zero := [.sl []], kind := .slice 5 })]
noncomputable def C_codec_Text : Cfg := mkC ty_codec_Text [] [] [] [] [] [] []
theorem E_codec_Text : Env1 Go.Proofs.Try.prog C_codec_Text := mkC_ok (by kernel_rfl) trivial (by kernel_rfl)
theorem C_codec_Text_ty : (C_codec_Text).ty = ty_codec_Text := rfl
theorem C_codec_Text_eqs : (C_codec_Text).eqs = [] := rfl
theorem C_codec_Text_call : (C_codec_Text).call = fun f => (([] : List (Nat × (List DA → Option (List RV)))).lookup f).getD fun _ => none := rfl
theorem C_codec_Text_calls : (C_codec_Text).calls = [] := rfl
theorem C_codec_Text_scal : (C_codec_Text).scal = [] := rfl
theorem C_codec_Text_owns : (C_codec_Text).owns = [] := rfl
theorem C_codec_Text_vars : (C_codec_Text).vars = [] := rfl
theorem C_codec_Text_ores : (C_codec_Text).ores = [] := rfl
theorem C_codec_Text_flags : (C_codec_Text).flags = [] := rfl
theorem C_codec_Text_pins : (C_codec_Text).pins = [] := rfl
theorem C_codec_Text_inls : (C_codec_Text).inls = [] := rfl
def T_codec_Text : List (Nat × LoopA) := []
set_option maxHeartbeats 20000000 in
set_option maxRecDepth 100000 in
noncomputable def pk_codec_Text : { F : ByteArray → Option (ByteArray) // CallC Go.Proofs.Try.prog 86 (con1 eStr (fun x0 => (F x0).map (res1 rS).enc)) } :=
  ⟨_, cc1 E_codec_Text Go.Proofs.Try.func86 rfl rfl (T := T_codec_Text) (G := []) (r := (res1 rS)) fun x0 => by
    unfold Wf
    simp (maxSteps := 10000000) (implicitDefEqProofs := false) [-evOps, -evOne, -evOp, -evIndexAddr, -evIndex, -evPick, -binV, -evLoad, -evStore, -loadC, -callV, -nilC, -storeC, -toDVs, -toDAs, -resRs, List.lookup, List.replicate, List.range_succ, ty_codec_Text, C_codec_Text_ty, C_codec_Text_eqs, C_codec_Text_call, C_codec_Text_calls, C_codec_Text_scal, C_codec_Text_owns, C_codec_Text_vars, C_codec_Text_ores, C_codec_Text_flags, C_codec_Text_pins, C_codec_Text_inls, T_codec_Text, Go.Proofs.Try.f86, iC, uC, bC, sC]
    try rfl⟩
noncomputable def F_codec_Text : ByteArray → Option (ByteArray) := pk_codec_Text.1
noncomputable def M_codec_Text : List DA → Option (List RV) := con1 eStr (fun x0 => (F_codec_Text x0).map (res1 rS).enc)
theorem cc_codec_Text : CallC Go.Proofs.Try.prog 86 M_codec_Text := pk_codec_Text.2
/-! ### hopper/codec.value -/
theorem en_codec_value : Enters Go.Proofs.Try.prog 76 := ⟨_, Go.Proofs.Try.func76, rfl, rfl⟩
def ty_codec_value : List (Nat × TI) := [(105, { size := 1, bytes := 24, agg := false, zero := [.sl []], kind := .slice 5 }), (3, { size := 1, bytes := 8, agg := false, zero := [.sc (.int .i64 0)], kind := .int .i64 }), (5, { size := 1, bytes := 1, agg := false, zero := [.sc (.int .u8 0)], kind := .int .u8 })]
noncomputable def C_codec_value : Cfg := mkC ty_codec_value [] [] [] [] [3,6,7,8] [] []
theorem E_codec_value : Env1 Go.Proofs.Try.prog C_codec_value := mkC_ok (by kernel_rfl) trivial (by kernel_rfl)
theorem C_codec_value_ty : (C_codec_value).ty = ty_codec_value := rfl
theorem C_codec_value_eqs : (C_codec_value).eqs = [] := rfl
theorem C_codec_value_call : (C_codec_value).call = fun f => (([] : List (Nat × (List DA → Option (List RV)))).lookup f).getD fun _ => none := rfl
theorem C_codec_value_calls : (C_codec_value).calls = [] := rfl
theorem C_codec_value_scal : (C_codec_value).scal = [] := rfl
theorem C_codec_value_owns : (C_codec_value).owns = [] := rfl
theorem C_codec_value_vars : (C_codec_value).vars = [3,6,7,8] := rfl
theorem C_codec_value_ores : (C_codec_value).ores = [] := rfl
theorem C_codec_value_flags : (C_codec_value).flags = [] := rfl
theorem C_codec_value_pins : (C_codec_value).pins = [] := rfl
theorem C_codec_value_inls : (C_codec_value).inls = [] := rfl
structure L_codec_value_0 where
  n : Int
  v6 : List Int
  v7 : Int
  v8 : Int
def an_codec_value_0 : Ann := mkAnn (σ := L_codec_value_0) (lSkip vUnk <| lSkip vUnk <| lSkip vUnk <| lCons (vOne cI) <| lSkip vUnk <| lSkip vUnk <| lCons (vOne (cSl ceU)) <| lCons (vOne cI) <| lCons (vOne cI) <| lSkip vUnk <| lSkip vUnk <| lSkip vUnk <| lSkip vUnk <| lSkip vUnk <| lSkip vUnk <| lSkip vUnk <| lSkip vUnk <| lSkip vUnk <| lSkip vUnk <|  lNil) ( lNil)
  (fun a b => L_codec_value_0.mk (a.1) (a.2.1) (a.2.2.1) (a.2.2.2.1)) (fun s => (s.n, s.v6, s.v7, s.v8, ())) (fun s => (())) (fun a b => true) (fun _ _ _ => ⟨rfl, rfl⟩)
theorem an_codec_value_0_st (s : an_codec_value_0.σ) : an_codec_value_0.st s = ([.unk, .unk, .unk, .v (.one (.d (.sc (.int .i64 (L_codec_value_0.n s))))), .unk, .unk, .v (.one (.d (.sl ((L_codec_value_0.v6 s).map uC)))), .v (.one (.d (.sc (.int .i64 (L_codec_value_0.v7 s))))), .v (.one (.d (.sc (.int .i64 (L_codec_value_0.v8 s))))), .unk, .unk, .unk, .unk, .unk, .unk, .unk, .unk, .unk, .unk], []) := rfl
set_option maxHeartbeats 4000000 in
set_option maxRecDepth 100000 in
theorem an_codec_value_0_un {β : Type} (n : Int) (p_v6 : List (List DV)) (v7 : Int) (v8 : Int) (f_ : an_codec_value_0.σ → Option β) : (an_codec_value_0.un [.unk, .unk, .unk, .v (.one (.d (.sc (.int .i64 n)))), .unk, .unk, .v (.one (.d (.sl p_v6))), .v (.one (.d (.sc (.int .i64 v7)))), .v (.one (.d (.sc (.int .i64 v8)))), .unk, .unk, .unk, .unk, .unk, .unk, .unk, .unk, .unk, .unk] []).bind f_ = (decL uD p_v6).bind fun v6 => f_ (L_codec_value_0.mk n v6 v7 v8) :=
  (mkAnn_un (σ := L_codec_value_0) _ _ _ _ _ _ _ _ _ f_).trans (by simp [Option.bind_assoc])
def T_codec_value : List (Nat × LoopA) := [(0, .ty an_codec_value_0)]
set_option maxHeartbeats 20000000 in
set_option maxRecDepth 100000 in
noncomputable def pk_codec_value : { F : (List Int) → Option (Int) // CallC Go.Proofs.Try.prog 76 (con1 (eL ceU) (fun x0 => (F x0).map (res1 rI).enc)) } :=
  ⟨_, cc1 E_codec_value Go.Proofs.Try.func76 rfl rfl (T := T_codec_value) (G := []) (r := (res1 rI)) fun x0 => by
    unfold Wf
    simp (maxSteps := 10000000) (implicitDefEqProofs := false) [-evOps, -evOne, -evOp, -evIndexAddr, -evIndex, -evPick, -binV, -evLoad, -evStore, -loadC, -callV, -nilC, -storeC, -toDVs, -toDAs, -resRs, List.lookup, List.replicate, List.range_succ, ty_codec_value, C_codec_value_ty, C_codec_value_eqs, C_codec_value_call, C_codec_value_calls, C_codec_value_scal, C_codec_value_owns, C_codec_value_vars, C_codec_value_ores, C_codec_value_flags, C_codec_value_pins, C_codec_value_inls, T_codec_value, Go.Proofs.Try.f76, an_codec_value_0_st, an_codec_value_0_un, iC, uC, bC, sC]
    try rfl⟩
noncomputable def F_codec_value : (List Int) → Option (Int) := pk_codec_value.1
noncomputable def M_codec_value : List DA → Option (List RV) := con1 (eL ceU) (fun x0 => (F_codec_value x0).map (res1 rI).enc)
theorem cc_codec_value : CallC Go.Proofs.Try.prog 76 M_codec_value := pk_codec_value.2
/-! ### hopper/codec.cut -/
theorem en_codec_cut : Enters Go.Proofs.Try.prog 75 := ⟨_, Go.Proofs.Try.func75, rfl, rfl⟩
def ty_codec_cut : List (Nat × TI) := [(105, { size := 1, bytes := 24, agg := false, zero := [.sl []], kind := .slice 5 }), (9, { size := 1, bytes := 16, agg := false, zero := [.sc (.string "".toByteArray)], kind := .str }), (3, { size := 1, bytes := 8, agg := false, zero := [.sc (.int .i64 0)], kind := .int .i64 }), (5, { size := 1, bytes := 1, agg := false, zero := [.sc (.int .u8 0)], kind := .int .u8 })]
noncomputable def C_codec_cut : Cfg := mkC ty_codec_cut [] [] [] [(4, [(0, 5, 1)])] [] [] [(4, [true, true, true, true, true, true, true, true, true, true])]
theorem E_codec_cut : Env1 Go.Proofs.Try.prog C_codec_cut := mkC_ok (by kernel_rfl) trivial (by kernel_rfl)
theorem C_codec_cut_ty : (C_codec_cut).ty = ty_codec_cut := rfl
theorem C_codec_cut_eqs : (C_codec_cut).eqs = [] := rfl
theorem C_codec_cut_call : (C_codec_cut).call = fun f => (([] : List (Nat × (List DA → Option (List RV)))).lookup f).getD fun _ => none := rfl
theorem C_codec_cut_calls : (C_codec_cut).calls = [] := rfl
theorem C_codec_cut_scal : (C_codec_cut).scal = [] := rfl
theorem C_codec_cut_owns : (C_codec_cut).owns = [(4, [(0, 5, 1)])] := rfl
theorem C_codec_cut_vars : (C_codec_cut).vars = [] := rfl
theorem C_codec_cut_ores : (C_codec_cut).ores = [] := rfl
theorem C_codec_cut_flags : (C_codec_cut).flags = [(4, [true, true, true, true, true, true, true, true, true, true])] := rfl
theorem C_codec_cut_pins : (C_codec_cut).pins = [] := rfl
theorem C_codec_cut_inls : (C_codec_cut).inls = [] := rfl
def T_codec_cut : List (Nat × LoopA) := []
set_option maxHeartbeats 20000000 in
set_option maxRecDepth 100000 in
noncomputable def pk_codec_cut : { F : ByteArray → Int → Option ((List Int) × ByteArray × Bool) // CallC Go.Proofs.Try.prog 75 (con2 eStr eInt (fun x0 x1 => (F x0 x1).map (res3 (rSl ceU) rS rB).enc)) } :=
  ⟨_, cc2 E_codec_cut Go.Proofs.Try.func75 rfl rfl (T := T_codec_cut) (G := []) (r := (res3 (rSl ceU) rS rB)) fun x0 x1 => by
    unfold Wf
    simp (maxSteps := 10000000) (implicitDefEqProofs := false) [-evOps, -evOne, -evOp, -evIndexAddr, -evIndex, -evPick, -binV, -evLoad, -evStore, -loadC, -callV, -nilC, -storeC, -toDVs, -toDAs, -resRs, List.lookup, List.replicate, List.range_succ, ty_codec_cut, C_codec_cut_ty, C_codec_cut_eqs, C_codec_cut_call, C_codec_cut_calls, C_codec_cut_scal, C_codec_cut_owns, C_codec_cut_vars, C_codec_cut_ores, C_codec_cut_flags, C_codec_cut_pins, C_codec_cut_inls, T_codec_cut, Go.Proofs.Try.f75, iC, uC, bC, sC]
    try rfl⟩
noncomputable def F_codec_cut : ByteArray → Int → Option ((List Int) × ByteArray × Bool) := pk_codec_cut.1
noncomputable def M_codec_cut : List DA → Option (List RV) := con2 eStr eInt (fun x0 x1 => (F_codec_cut x0 x1).map (res3 (rSl ceU) rS rB).enc)
theorem cc_codec_cut : CallC Go.Proofs.Try.prog 75 M_codec_cut := pk_codec_cut.2
/-! ### hopper/look.Full -/
theorem en_look_Full : Enters Go.Proofs.Try.prog 18 := ⟨_, Go.Proofs.Try.func18, rfl, rfl⟩
def ty_look_Full : List (Nat × TI) := [(38, { size := 15, bytes := 176, agg := true, zero := [.sc (.bool false), .sc (.int .i64 0), .sc (.int .i64 0), .sc (.int .i64 0), .sl [], .sl [], .sc (.int .i64 0), .sc (.int .i64 0), .sc (.int .i64 0), .sc (.int .i64 0), .sc (.int .i64 0), .sc (.int .i64 0), .sc (.string "".toByteArray), .sl [], .sc (.int .i64 0)], kind := .struct [(0, 1, false), (1, 1, false), (2, 3, true), (5, 1, false), (6, 9, true)] }), (36, { size := 9, bytes := 96, agg := true, zero := [.sc (.int .i64 0), .sc (.int .i64 0), .sc (.int .i64 0), .sc (.int .i64 0), .sc (.int .i64 0), .sc (.int .i64 0), .sc (.string "".toByteArray), .sl [], .sc (.int .i64 0)], kind := .struct [(0, 1, false), (1, 6, true), (7, 1, false), (8, 1, false)] }), (4, { size := 1, bytes := 1, agg := false, zero := [.sc (.bool false)], kind := .bool }), (3, { size := 1, bytes := 8, agg := false, zero := [.sc (.int .i64 0)], kind := .int .i64 })]
noncomputable def C_look_Full : Cfg := mkC ty_look_Full [] [] [] [] [] [] []
theorem E_look_Full : Env1 Go.Proofs.Try.prog C_look_Full := mkC_ok (by kernel_rfl) trivial (by kernel_rfl)
theorem C_look_Full_ty : (C_look_Full).ty = ty_look_Full := rfl
theorem C_look_Full_eqs : (C_look_Full).eqs = [] := rfl
theorem C_look_Full_call : (C_look_Full).call = fun f => (([] : List (Nat × (List DA → Option (List RV)))).lookup f).getD fun _ => none := rfl
theorem C_look_Full_calls : (C_look_Full).calls = [] := rfl
theorem C_look_Full_scal : (C_look_Full).scal = [] := rfl
theorem C_look_Full_owns : (C_look_Full).owns = [] := rfl
theorem C_look_Full_vars : (C_look_Full).vars = [] := rfl
theorem C_look_Full_ores : (C_look_Full).ores = [] := rfl
theorem C_look_Full_flags : (C_look_Full).flags = [] := rfl
theorem C_look_Full_pins : (C_look_Full).pins = [] := rfl
theorem C_look_Full_inls : (C_look_Full).inls = [] := rfl
def T_look_Full : List (Nat × LoopA) := []
set_option maxHeartbeats 20000000 in
set_option maxRecDepth 100000 in
noncomputable def pk_look_Full : { F : Plan → Option (Result) // CallC Go.Proofs.Try.prog 18 (con1 (eT cePlan) (fun x0 => (F x0).map (res1 (rAgg ceResult)).enc)) } :=
  ⟨_, cc1 E_look_Full Go.Proofs.Try.func18 rfl rfl (T := T_look_Full) (G := []) (r := (res1 (rAgg ceResult))) fun x0 => by
    unfold Wf
    simp (maxSteps := 10000000) (implicitDefEqProofs := false) [-evOps, -evOne, -evOp, -evIndexAddr, -evIndex, -evPick, -binV, -evLoad, -evStore, -loadC, -callV, -nilC, -storeC, -toDVs, -toDAs, -resRs, List.lookup, List.replicate, List.range_succ, ty_look_Full, C_look_Full_ty, C_look_Full_eqs, C_look_Full_call, C_look_Full_calls, C_look_Full_scal, C_look_Full_owns, C_look_Full_vars, C_look_Full_ores, C_look_Full_flags, C_look_Full_pins, C_look_Full_inls, T_look_Full, Go.Proofs.Try.f18, iC, uC, bC, sC, Acc.c, Event.c, Plan.c, Result.c, Tx.c]
    try rfl⟩
noncomputable def F_look_Full : Plan → Option (Result) := pk_look_Full.1
noncomputable def M_look_Full : List DA → Option (List RV) := con1 (eT cePlan) (fun x0 => (F_look_Full x0).map (res1 (rAgg ceResult)).enc)
theorem cc_look_Full : CallC Go.Proofs.Try.prog 18 M_look_Full := pk_look_Full.2
/-! ### hopper/look.refuse -/
theorem en_look_refuse : Enters Go.Proofs.Try.prog 30 := ⟨_, Go.Proofs.Try.func30, rfl, rfl⟩
def ty_look_refuse : List (Nat × TI) := [(38, { size := 15, bytes := 176, agg := true, zero := [.sc (.bool false), .sc (.int .i64 0), .sc (.int .i64 0), .sc (.int .i64 0), .sl [], .sl [], .sc (.int .i64 0), .sc (.int .i64 0), .sc (.int .i64 0), .sc (.int .i64 0), .sc (.int .i64 0), .sc (.int .i64 0), .sc (.string "".toByteArray), .sl [], .sc (.int .i64 0)], kind := .struct [(0, 1, false), (1, 1, false), (2, 3, true), (5, 1, false), (6, 9, true)] }), (36, { size := 9, bytes := 96, agg := true, zero := [.sc (.int .i64 0), .sc (.int .i64 0), .sc (.int .i64 0), .sc (.int .i64 0), .sc (.int .i64 0), .sc (.int .i64 0), .sc (.string "".toByteArray), .sl [], .sc (.int .i64 0)], kind := .struct [(0, 1, false), (1, 6, true), (7, 1, false), (8, 1, false)] })]
noncomputable def C_look_refuse : Cfg := mkC ty_look_refuse [] [] [] [] [] [] []
theorem E_look_refuse : Env1 Go.Proofs.Try.prog C_look_refuse := mkC_ok (by kernel_rfl) trivial (by kernel_rfl)
theorem C_look_refuse_ty : (C_look_refuse).ty = ty_look_refuse := rfl
theorem C_look_refuse_eqs : (C_look_refuse).eqs = [] := rfl
theorem C_look_refuse_call : (C_look_refuse).call = fun f => (([] : List (Nat × (List DA → Option (List RV)))).lookup f).getD fun _ => none := rfl
theorem C_look_refuse_calls : (C_look_refuse).calls = [] := rfl
theorem C_look_refuse_scal : (C_look_refuse).scal = [] := rfl
theorem C_look_refuse_owns : (C_look_refuse).owns = [] := rfl
theorem C_look_refuse_vars : (C_look_refuse).vars = [] := rfl
theorem C_look_refuse_ores : (C_look_refuse).ores = [] := rfl
theorem C_look_refuse_flags : (C_look_refuse).flags = [] := rfl
theorem C_look_refuse_pins : (C_look_refuse).pins = [] := rfl
theorem C_look_refuse_inls : (C_look_refuse).inls = [] := rfl
def T_look_refuse : List (Nat × LoopA) := []
set_option maxHeartbeats 20000000 in
set_option maxRecDepth 100000 in
noncomputable def pk_look_refuse : { F : Int → Option (Plan) // CallC Go.Proofs.Try.prog 30 (con1 eInt (fun x0 => (F x0).map (res1 (rAgg cePlan)).enc)) } :=
  ⟨_, cc1 E_look_refuse Go.Proofs.Try.func30 rfl rfl (T := T_look_refuse) (G := []) (r := (res1 (rAgg cePlan))) fun x0 => by
    unfold Wf
    simp (maxSteps := 10000000) (implicitDefEqProofs := false) [-evOps, -evOne, -evOp, -evIndexAddr, -evIndex, -evPick, -binV, -evLoad, -evStore, -loadC, -callV, -nilC, -storeC, -toDVs, -toDAs, -resRs, List.lookup, List.replicate, List.range_succ, ty_look_refuse, C_look_refuse_ty, C_look_refuse_eqs, C_look_refuse_call, C_look_refuse_calls, C_look_refuse_scal, C_look_refuse_owns, C_look_refuse_vars, C_look_refuse_ores, C_look_refuse_flags, C_look_refuse_pins, C_look_refuse_inls, T_look_refuse, Go.Proofs.Try.f30, iC, uC, bC, sC, Acc.c, Event.c, Plan.c, Result.c, Tx.c]
    try rfl⟩
noncomputable def F_look_refuse : Int → Option (Plan) := pk_look_refuse.1
noncomputable def M_look_refuse : List DA → Option (List RV) := con1 eInt (fun x0 => (F_look_refuse x0).map (res1 (rAgg cePlan)).enc)
theorem cc_look_refuse : CallC Go.Proofs.Try.prog 30 M_look_refuse := pk_look_refuse.2
/-! ### hopper/hopperref15.wrong -/
theorem en_r15_wrong : Enters Go.Proofs.Try.prog 33 := ⟨_, Go.Proofs.Try.func33, rfl, rfl⟩
def ty_r15_wrong : List (Nat × TI) := [(43, { size := 15, bytes := 176, agg := true, zero := [.sc (.bool false), .sc (.int .i64 0), .sc (.int .i64 0), .sc (.int .i64 0), .sl [], .sl [], .sc (.int .i64 0), .sc (.int .i64 0), .sc (.int .i64 0), .sc (.int .i64 0), .sc (.int .i64 0), .sc (.int .i64 0), .sc (.string "".toByteArray), .sl [], .sc (.int .i64 0)], kind := .struct [(0, 1, false), (1, 1, false), (2, 3, true), (5, 1, false), (6, 9, true)] }), (41, { size := 9, bytes := 96, agg := true, zero := [.sc (.int .i64 0), .sc (.int .i64 0), .sc (.int .i64 0), .sc (.int .i64 0), .sc (.int .i64 0), .sc (.int .i64 0), .sc (.string "".toByteArray), .sl [], .sc (.int .i64 0)], kind := .struct [(0, 1, false), (1, 6, true), (7, 1, false), (8, 1, false)] })]
noncomputable def C_r15_wrong : Cfg := mkC ty_r15_wrong [] [] [] [] [] [] []
theorem E_r15_wrong : Env1 Go.Proofs.Try.prog C_r15_wrong := mkC_ok (by kernel_rfl) trivial (by kernel_rfl)
theorem C_r15_wrong_ty : (C_r15_wrong).ty = ty_r15_wrong := rfl
theorem C_r15_wrong_eqs : (C_r15_wrong).eqs = [] := rfl
theorem C_r15_wrong_call : (C_r15_wrong).call = fun f => (([] : List (Nat × (List DA → Option (List RV)))).lookup f).getD fun _ => none := rfl
theorem C_r15_wrong_calls : (C_r15_wrong).calls = [] := rfl
theorem C_r15_wrong_scal : (C_r15_wrong).scal = [] := rfl
theorem C_r15_wrong_owns : (C_r15_wrong).owns = [] := rfl
theorem C_r15_wrong_vars : (C_r15_wrong).vars = [] := rfl
theorem C_r15_wrong_ores : (C_r15_wrong).ores = [] := rfl
theorem C_r15_wrong_flags : (C_r15_wrong).flags = [] := rfl
theorem C_r15_wrong_pins : (C_r15_wrong).pins = [] := rfl
theorem C_r15_wrong_inls : (C_r15_wrong).inls = [] := rfl
def T_r15_wrong : List (Nat × LoopA) := []
set_option maxHeartbeats 20000000 in
set_option maxRecDepth 100000 in
noncomputable def pk_r15_wrong : { F : Int → Option (Plan) // CallC Go.Proofs.Try.prog 33 (con1 eInt (fun x0 => (F x0).map (res1 (rAgg cePlan)).enc)) } :=
  ⟨_, cc1 E_r15_wrong Go.Proofs.Try.func33 rfl rfl (T := T_r15_wrong) (G := []) (r := (res1 (rAgg cePlan))) fun x0 => by
    unfold Wf
    simp (maxSteps := 10000000) (implicitDefEqProofs := false) [-evOps, -evOne, -evOp, -evIndexAddr, -evIndex, -evPick, -binV, -evLoad, -evStore, -loadC, -callV, -nilC, -storeC, -toDVs, -toDAs, -resRs, List.lookup, List.replicate, List.range_succ, ty_r15_wrong, C_r15_wrong_ty, C_r15_wrong_eqs, C_r15_wrong_call, C_r15_wrong_calls, C_r15_wrong_scal, C_r15_wrong_owns, C_r15_wrong_vars, C_r15_wrong_ores, C_r15_wrong_flags, C_r15_wrong_pins, C_r15_wrong_inls, T_r15_wrong, Go.Proofs.Try.f33, iC, uC, bC, sC, Acc.c, Event.c, Plan.c, Result.c, Tx.c]
    try rfl⟩
noncomputable def F_r15_wrong : Int → Option (Plan) := pk_r15_wrong.1
noncomputable def M_r15_wrong : List DA → Option (List RV) := con1 eInt (fun x0 => (F_r15_wrong x0).map (res1 (rAgg cePlan)).enc)
theorem cc_r15_wrong : CallC Go.Proofs.Try.prog 33 M_r15_wrong := pk_r15_wrong.2
/-! ### hopper/hopperref15.Full -/
theorem en_r15_Full : Enters Go.Proofs.Try.prog 19 := ⟨_, Go.Proofs.Try.func19, rfl, rfl⟩
def ty_r15_Full : List (Nat × TI) := [(43, { size := 15, bytes := 176, agg := true, zero := [.sc (.bool false), .sc (.int .i64 0), .sc (.int .i64 0), .sc (.int .i64 0), .sl [], .sl [], .sc (.int .i64 0), .sc (.int .i64 0), .sc (.int .i64 0), .sc (.int .i64 0), .sc (.int .i64 0), .sc (.int .i64 0), .sc (.string "".toByteArray), .sl [], .sc (.int .i64 0)], kind := .struct [(0, 1, false), (1, 1, false), (2, 3, true), (5, 1, false), (6, 9, true)] }), (41, { size := 9, bytes := 96, agg := true, zero := [.sc (.int .i64 0), .sc (.int .i64 0), .sc (.int .i64 0), .sc (.int .i64 0), .sc (.int .i64 0), .sc (.int .i64 0), .sc (.string "".toByteArray), .sl [], .sc (.int .i64 0)], kind := .struct [(0, 1, false), (1, 6, true), (7, 1, false), (8, 1, false)] }), (4, { size := 1, bytes := 1, agg := false, zero := [.sc (.bool false)], kind := .bool }), (3, { size := 1, bytes := 8, agg := false, zero := [.sc (.int .i64 0)], kind := .int .i64 })]
noncomputable def C_r15_Full : Cfg := mkC ty_r15_Full [] [] [] [] [] [] []
theorem E_r15_Full : Env1 Go.Proofs.Try.prog C_r15_Full := mkC_ok (by kernel_rfl) trivial (by kernel_rfl)
theorem C_r15_Full_ty : (C_r15_Full).ty = ty_r15_Full := rfl
theorem C_r15_Full_eqs : (C_r15_Full).eqs = [] := rfl
theorem C_r15_Full_call : (C_r15_Full).call = fun f => (([] : List (Nat × (List DA → Option (List RV)))).lookup f).getD fun _ => none := rfl
theorem C_r15_Full_calls : (C_r15_Full).calls = [] := rfl
theorem C_r15_Full_scal : (C_r15_Full).scal = [] := rfl
theorem C_r15_Full_owns : (C_r15_Full).owns = [] := rfl
theorem C_r15_Full_vars : (C_r15_Full).vars = [] := rfl
theorem C_r15_Full_ores : (C_r15_Full).ores = [] := rfl
theorem C_r15_Full_flags : (C_r15_Full).flags = [] := rfl
theorem C_r15_Full_pins : (C_r15_Full).pins = [] := rfl
theorem C_r15_Full_inls : (C_r15_Full).inls = [] := rfl
def T_r15_Full : List (Nat × LoopA) := []
set_option maxHeartbeats 20000000 in
set_option maxRecDepth 100000 in
noncomputable def pk_r15_Full : { F : Plan → Option (Result) // CallC Go.Proofs.Try.prog 19 (con1 (eT cePlan) (fun x0 => (F x0).map (res1 (rAgg ceResult)).enc)) } :=
  ⟨_, cc1 E_r15_Full Go.Proofs.Try.func19 rfl rfl (T := T_r15_Full) (G := []) (r := (res1 (rAgg ceResult))) fun x0 => by
    unfold Wf
    simp (maxSteps := 10000000) (implicitDefEqProofs := false) [-evOps, -evOne, -evOp, -evIndexAddr, -evIndex, -evPick, -binV, -evLoad, -evStore, -loadC, -callV, -nilC, -storeC, -toDVs, -toDAs, -resRs, List.lookup, List.replicate, List.range_succ, ty_r15_Full, C_r15_Full_ty, C_r15_Full_eqs, C_r15_Full_call, C_r15_Full_calls, C_r15_Full_scal, C_r15_Full_owns, C_r15_Full_vars, C_r15_Full_ores, C_r15_Full_flags, C_r15_Full_pins, C_r15_Full_inls, T_r15_Full, Go.Proofs.Try.f19, iC, uC, bC, sC, Acc.c, Event.c, Plan.c, Result.c, Tx.c]
    try rfl⟩
noncomputable def F_r15_Full : Plan → Option (Result) := pk_r15_Full.1
noncomputable def M_r15_Full : List DA → Option (List RV) := con1 (eT cePlan) (fun x0 => (F_r15_Full x0).map (res1 (rAgg ceResult)).enc)
theorem cc_r15_Full : CallC Go.Proofs.Try.prog 19 M_r15_Full := pk_r15_Full.2

end Go.Vm
