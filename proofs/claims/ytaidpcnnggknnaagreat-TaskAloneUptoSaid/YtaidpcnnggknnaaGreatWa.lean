/- What Go functions come to, as Lean functions: each with its contract. -/
import Derived.Test.YtaidpcnnggknnaaGreatVd
import Derived.Test.YtaidpcnnggknnaaGreatProg

set_option linter.unusedVariables false
set_option linter.unusedSimpArgs false
namespace Go.Vm
open Go Go.RowKit Go.Proofs
attribute [-simp] env0 envI evOps evOne evOp evIndexAddr evIndex evPick binV evLoad evStore loadC callV nilC storeC toDVs toDAs resRs
attribute [local simp] List.lookup List.replicate List.range_succ env0_tree envI_tree

theorem en_k70 : Enters Tryz.prog 32 := ⟨_, Tryz.func32, rfl, rfl⟩
def ty_k70 : List (Nat × TI) := [ti65, ti31, ti32, ti3]
noncomputable def C_k70 : Cfg := mkC ty_k70 [] [] [] [] [1,2,4,6] [] []
theorem E_k70 : Env1 Tryz.prog C_k70 := mkC_ok (by kernel_rfl) trivial (by kernel_rfl)
theorem c_r05_Find : CIs (C_k70) ty_k70 [] [] [] [] [] [1,2,4,6] [] [] [] [] := ⟨rfl, rfl, rfl, rfl, rfl, rfl, rfl, rfl, rfl, rfl, rfl⟩
structure L_k70_0 where
  nonce : Int
  i : Int
  a_ : Acc
  v4 : Tx
def an_k70_0 : Ann := mkAnn (σ := L_k70_0) (lSkip vUnk <| lCons (vOne cI) <| lSkip (vOne (cPtr 0 0 0)) <| lSkip vUnk <| lSkip (vOne (cPtr 1 0 0)) <| lSkip vUnk <| lCons (vOne cI) <| K8 <| K8 <| lSkip vUnk <| lSkip vUnk <| lSkip vUnk <| lSkip vUnk <| lSkip vUnk <|  lNil) (lCons (oBox 65 (cStr ceAcc)) <| lCons (oBox 31 (cStr ceTx)) <|  lNil)
  (fun a b => L_k70_0.mk (a.1) (a.2.1) (b.1) (b.2.1)) (fun s => (s.nonce, s.i, ())) (fun s => (s.a_, s.v4, ())) (fun a b => true) (fun _ _ _ => ⟨rfl, rfl⟩)
theorem an_k70_0_c (C : Cfg) : an_k70_0.c C = C := rfl
set_option maxRecDepth 100000 in
theorem an_k70_0_st (s : an_k70_0.σ) : an_k70_0.st s = (toL 28 (.node (.node (.node (.node (.node (.node (.node (.node (.leaf (.unk)) (.leaf (.v (.one (.d (.sc (.int .i64 (L_k70_0.nonce s)))))))) (.node (.leaf (.v (.one (.ptr 0 0 0)))) (.leaf (.unk)))) (.node (.node (.leaf (.v (.one (.ptr 1 0 0)))) (.leaf (.unk))) (.node (.leaf (.v (.one (.d (.sc (.int .i64 (L_k70_0.i s))))))) (.leaf (.unk))))) (.leaf (.unk))) (.leaf (.unk))) (.leaf (.unk))) (.leaf (.unk))) (.leaf (.unk))), [.box 65 (ddv (Acc.c (L_k70_0.a_ s))), .box 31 (ddv (Tx.c (L_k70_0.v4 s)))]) := rfl
set_option maxHeartbeats 4000000 in
set_option maxRecDepth 100000 in
theorem an_k70_0_un {β : Type} (nonce : Int) (i : Int) (p_a_ : List CV) (p_v4 : List CV) (f_ : an_k70_0.σ → Option β) : (an_k70_0.un (.unk :: .v (.one (.d (.sc (.int .i64 nonce)))) :: .v (.one (.ptr 0 0 0)) :: .unk :: .v (.one (.ptr 1 0 0)) :: .unk :: .v (.one (.d (.sc (.int .i64 i)))) :: U8 (U8 (.unk :: .unk :: .unk :: .unk :: .unk :: []))) [.box 65 p_a_, .box 31 p_v4]).bind f_ = ((allD p_a_).bind dAcc).bind fun a_ => ((allD p_v4).bind dTx).bind fun v4 => f_ (L_k70_0.mk nonce i a_ v4) :=
  (mkAnn_un (σ := L_k70_0) _ _ _ _ _ _ _ _ _ f_).trans (by simp (maxSteps := 10000000) [Option.bind_assoc, U8, U64, K8, K64])
def T_k70 : List (Nat × LoopA) := [(0, .ty an_k70_0)]
set_option maxHeartbeats 20000000 in
set_option maxRecDepth 100000 in
noncomputable def pk_k70 : { F : Acc → Int → Option (Tx × Bool) // CallC Tryz.prog 32 (con2 (eT ceAcc) eInt (fun x0 x1 => (F x0 x1).map (res2 (rAgg ceTx) rB).enc)) } :=
  ⟨_, cc2 E_k70 Tryz.func32 rfl rfl (T := T_k70) (G := []) (r := (res2 (rAgg ceTx) rB)) fun x0 x1 => by
    unfold Wf
    simp (maxSteps := 10000000) (implicitDefEqProofs := false) [ty_k70, c_r05_Find, T_k70, Tryz.f32, an_k70_0_st, an_k70_0_un, an_k70_0_c, iC, uC, bC, sC, Acc.c, Tx.c]
    try rfl⟩
noncomputable def F_k70 : Acc → Int → Option (Tx × Bool) := pk_k70.1
noncomputable def M_k70 : List DA → Option (List RV) := con2 (eT ceAcc) eInt (fun x0 x1 => (F_k70 x0 x1).map (res2 (rAgg ceTx) rB).enc)
theorem cc_k70 : CallC Tryz.prog 32 M_k70 := pk_k70.2
theorem en_k5a : Enters Tryz.prog 143 := ⟨_, Tryz.func143, rfl, rfl⟩
def ty_k5a : List (Nat × TI) := [ti32, ti3, ti31]
noncomputable def C_k5a : Cfg := mkC ty_k5a [] [] [] [] [0,1,6,7] [] []
theorem E_k5a : Env1 Tryz.prog C_k5a := mkC_ok (by kernel_rfl) trivial (by kernel_rfl)
theorem c_queue_place : CIs (C_k5a) ty_k5a [] [] [] [] [] [0,1,6,7] [] [] [] [] := ⟨rfl, rfl, rfl, rfl, rfl, rfl, rfl, rfl, rfl, rfl, rfl⟩
structure L_k5a_0 where
  l : List Tx
  n : Int
  pos : Int
  behind : Int
def an_k5a_0 : Ann := mkAnn (σ := L_k5a_0) (lCons (vOne (cSl ceTx)) <| lCons (vOne cI) <| lSkip vUnk <| lSkip vUnk <| lSkip vUnk <| lSkip vUnk <| lCons (vOne cI) <| lCons (vOne cI) <| K8 <| K8 <| K8 <| lSkip vUnk <| lSkip vUnk <| lSkip vUnk <| lSkip vUnk <| lSkip vUnk <| lSkip vUnk <| lSkip vUnk <|  lNil) ( lNil)
  (fun a b => L_k5a_0.mk (a.1) (a.2.1) (a.2.2.1) (a.2.2.2.1)) (fun s => (s.l, s.n, s.pos, s.behind, ())) (fun s => (())) (fun a b => true) (fun _ _ _ => ⟨rfl, rfl⟩)
theorem an_k5a_0_c (C : Cfg) : an_k5a_0.c C = C := rfl
set_option maxRecDepth 100000 in
theorem an_k5a_0_st (s : an_k5a_0.σ) : an_k5a_0.st s = (toL 39 (.node (.node (.node (.node (.node (.node (.node (.node (.leaf (.v (.one (.d (.sl ((L_k5a_0.l s).map Tx.c)))))) (.leaf (.v (.one (.d (.sc (.int .i64 (L_k5a_0.n s)))))))) (.leaf (.unk))) (.node (.leaf (.unk)) (.node (.leaf (.v (.one (.d (.sc (.int .i64 (L_k5a_0.pos s))))))) (.leaf (.v (.one (.d (.sc (.int .i64 (L_k5a_0.behind s)))))))))) (.leaf (.unk))) (.leaf (.unk))) (.leaf (.unk))) (.leaf (.unk))) (.leaf (.unk))), []) := rfl
set_option maxHeartbeats 4000000 in
set_option maxRecDepth 100000 in
theorem an_k5a_0_un {β : Type} (p_l : List (List DV)) (n : Int) (pos : Int) (behind : Int) (f_ : an_k5a_0.σ → Option β) : (an_k5a_0.un (.v (.one (.d (.sl p_l))) :: .v (.one (.d (.sc (.int .i64 n)))) :: .unk :: .unk :: .unk :: .unk :: .v (.one (.d (.sc (.int .i64 pos)))) :: .v (.one (.d (.sc (.int .i64 behind)))) :: U8 (U8 (U8 (.unk :: .unk :: .unk :: .unk :: .unk :: .unk :: .unk :: [])))) []).bind f_ = (decL dTx p_l).bind fun l => f_ (L_k5a_0.mk l n pos behind) :=
  (mkAnn_un (σ := L_k5a_0) _ _ _ _ _ _ _ _ _ f_).trans (by simp (maxSteps := 10000000) [Option.bind_assoc, U8, U64, K8, K64])
set_option maxHeartbeats 20000000 in
set_option maxRecDepth 100000 in
noncomputable def pk_k5a : { F : (List Tx) → Int → Option (Int × Bool) // CallC Tryz.prog 143 (con2 (eL ceTx) eInt (fun x0 x1 => (F x0 x1).map (res2 rI rB).enc)) } :=
  ⟨_, cc2 E_k5a Tryz.func143 rfl rfl (T := []) (G := [⟨0, 0, an_k5a_0⟩]) (r := (res2 rI rB)) fun x0 x1 => by
    unfold Wf
    simp (maxSteps := 10000000) (implicitDefEqProofs := false) [ty_k5a, c_queue_place, Tryz.f143, an_k5a_0_st, an_k5a_0_un, an_k5a_0_c, iC, uC, bC, sC, Tx.c, splitL, findLabel]
    try rfl⟩
noncomputable def F_k5a : (List Tx) → Int → Option (Int × Bool) := pk_k5a.1
noncomputable def M_k5a : List DA → Option (List RV) := con2 (eL ceTx) eInt (fun x0 x1 => (F_k5a x0 x1).map (res2 rI rB).enc)
theorem cc_k5a : CallC Tryz.prog 143 M_k5a := pk_k5a.2
theorem en_k5c : Enters Tryz.prog 72 := ⟨_, Tryz.func72, rfl, rfl⟩
def ty_k5c : List (Nat × TI) := [ti3]
noncomputable def C_k5c : Cfg := mkC ty_k5c [] [] [] [] [] [] []
theorem E_k5c : Env1 Tryz.prog C_k5c := mkC_ok (by kernel_rfl) trivial (by kernel_rfl)
theorem c_r01_Slots : CIs (C_k5c) ty_k5c [] [] [] [] [] [] [] [] [] [] := ⟨rfl, rfl, rfl, rfl, rfl, rfl, rfl, rfl, rfl, rfl, rfl⟩
set_option maxHeartbeats 20000000 in
set_option maxRecDepth 100000 in
noncomputable def pk_k5c : { F : Int → Option (Int) // CallC Tryz.prog 72 (con1 eInt (fun x0 => (F x0).map (res1 rI).enc)) } :=
  ⟨_, cc1 E_k5c Tryz.func72 rfl rfl (T := []) (G := []) (r := (res1 rI)) fun x0 => by
    unfold Wf
    simp (maxSteps := 10000000) (implicitDefEqProofs := false) [ty_k5c, c_r01_Slots, Tryz.f72, iC, uC, bC, sC]
    try rfl⟩
noncomputable def F_k5c : Int → Option (Int) := pk_k5c.1
noncomputable def M_k5c : List DA → Option (List RV) := con1 eInt (fun x0 => (F_k5c x0).map (res1 rI).enc)
theorem cc_k5c : CallC Tryz.prog 72 M_k5c := pk_k5c.2
theorem en_k5b : Enters Tryz.prog 139 := ⟨_, Tryz.func139, rfl, rfl⟩
def ty_k5b : List (Nat × TI) := [ti3]
noncomputable def C_k5b : Cfg := mkC ty_k5b [] [] [] [] [] [] []
theorem E_k5b : Env1 Tryz.prog C_k5b := mkC_ok (by kernel_rfl) trivial (by kernel_rfl)
theorem c_r01_Raise : CIs (C_k5b) ty_k5b [] [] [] [] [] [] [] [] [] [] := ⟨rfl, rfl, rfl, rfl, rfl, rfl, rfl, rfl, rfl, rfl, rfl⟩
set_option maxHeartbeats 20000000 in
set_option maxRecDepth 100000 in
noncomputable def pk_k5b : { F : Int → Int → Option (Int × Bool) // CallC Tryz.prog 139 (con2 eInt eInt (fun x0 x1 => (F x0 x1).map (res2 rI rB).enc)) } :=
  ⟨_, cc2 E_k5b Tryz.func139 rfl rfl (T := []) (G := []) (r := (res2 rI rB)) fun x0 x1 => by
    unfold Wf
    simp (maxSteps := 10000000) (implicitDefEqProofs := false) [ty_k5b, c_r01_Raise, Tryz.f139, iC, uC, bC, sC]
    try rfl⟩
noncomputable def F_k5b : Int → Int → Option (Int × Bool) := pk_k5b.1
noncomputable def M_k5b : List DA → Option (List RV) := con2 eInt eInt (fun x0 x1 => (F_k5b x0 x1).map (res2 rI rB).enc)
theorem cc_k5b : CallC Tryz.prog 139 M_k5b := pk_k5b.2
theorem en_k6b : Enters Tryz.prog 36 := ⟨_, Tryz.func36, rfl, rfl⟩
def ty_k6b : List (Nat × TI) := [ti31, ti9, ti3]
noncomputable def C_k6b : Cfg := mkC ty_k6b [] [] [] [] [] [] []
theorem E_k6b : Env1 Tryz.prog C_k6b := mkC_ok (by kernel_rfl) trivial (by kernel_rfl)
theorem c_r04_Small : CIs (C_k6b) ty_k6b [] [] [] [] [] [] [] [] [] [] := ⟨rfl, rfl, rfl, rfl, rfl, rfl, rfl, rfl, rfl, rfl, rfl⟩
set_option maxHeartbeats 20000000 in
set_option maxRecDepth 100000 in
noncomputable def pk_k6b : { F : Tx → Option (Bool) // CallC Tryz.prog 36 (con1 (eT ceTx) (fun x0 => (F x0).map (res1 rB).enc)) } :=
  ⟨_, cc1 E_k6b Tryz.func36 rfl rfl (T := []) (G := []) (r := (res1 rB)) fun x0 => by
    unfold Wf
    simp (maxSteps := 10000000) (implicitDefEqProofs := false) [ty_k6b, c_r04_Small, Tryz.f36, iC, uC, bC, sC, Tx.c]
    try rfl⟩
noncomputable def F_k6b : Tx → Option (Bool) := pk_k6b.1
noncomputable def M_k6b : List DA → Option (List RV) := con1 (eT ceTx) (fun x0 => (F_k6b x0).map (res1 rB).enc)
theorem cc_k6b : CallC Tryz.prog 36 M_k6b := pk_k6b.2
theorem en_k69 : Enters Tryz.prog 52 := ⟨_, Tryz.func52, rfl, rfl⟩
def ty_k69 : List (Nat × TI) := [ti32, ti3, ti31]
noncomputable def C_k69 : Cfg := mkC ty_k69 [] [(36, M_k6b)] [36] [] [0,1,5] [] []
theorem E_k69 : Env1 Tryz.prog C_k69 := mkC_ok (by kernel_rfl) (⟨⟨en_k6b, cc_k6b⟩, trivial⟩) (by kernel_rfl)
theorem c_r04_Few : CIs (C_k69) ty_k69 [] [(36, M_k6b)] [36] [36] [] [0,1,5] [] [] [] [] := ⟨rfl, rfl, rfl, rfl, rfl, rfl, rfl, rfl, rfl, rfl, rfl⟩
structure L_k69_0 where
  l : List Tx
  most : Int
  i : Int
def an_k69_0 : Ann := mkAnn (σ := L_k69_0) (lCons (vOne (cSl ceTx)) <| lCons (vOne cI) <| lSkip vUnk <| lSkip vUnk <| lSkip vUnk <| lCons (vOne cI) <| K8 <| K8 <|  lNil) ( lNil)
  (fun a b => L_k69_0.mk (a.1) (a.2.1) (a.2.2.1)) (fun s => (s.l, s.most, s.i, ())) (fun s => (())) (fun a b => true) (fun _ _ _ => ⟨rfl, rfl⟩)
theorem an_k69_0_c (C : Cfg) : an_k69_0.c C = C := rfl
set_option maxRecDepth 100000 in
theorem an_k69_0_st (s : an_k69_0.σ) : an_k69_0.st s = (toL 22 (.node (.node (.node (.node (.node (.node (.node (.node (.leaf (.v (.one (.d (.sl ((L_k69_0.l s).map Tx.c)))))) (.leaf (.v (.one (.d (.sc (.int .i64 (L_k69_0.most s)))))))) (.leaf (.unk))) (.node (.node (.leaf (.unk)) (.leaf (.v (.one (.d (.sc (.int .i64 (L_k69_0.i s)))))))) (.leaf (.unk)))) (.leaf (.unk))) (.leaf (.unk))) (.leaf (.unk))) (.leaf (.unk))) (.leaf (.unk))), []) := rfl
set_option maxHeartbeats 4000000 in
set_option maxRecDepth 100000 in
theorem an_k69_0_un {β : Type} (p_l : List (List DV)) (most : Int) (i : Int) (f_ : an_k69_0.σ → Option β) : (an_k69_0.un (.v (.one (.d (.sl p_l))) :: .v (.one (.d (.sc (.int .i64 most)))) :: .unk :: .unk :: .unk :: .v (.one (.d (.sc (.int .i64 i)))) :: U8 (U8 ([]))) []).bind f_ = (decL dTx p_l).bind fun l => f_ (L_k69_0.mk l most i) :=
  (mkAnn_un (σ := L_k69_0) _ _ _ _ _ _ _ _ _ f_).trans (by simp (maxSteps := 10000000) [Option.bind_assoc, U8, U64, K8, K64])
def T_k69 : List (Nat × LoopA) := [(0, .ty an_k69_0)]
set_option maxHeartbeats 20000000 in
set_option maxRecDepth 100000 in
noncomputable def pk_k69 : { F : (List Tx) → Int → Option (Bool) // CallC Tryz.prog 52 (con2 (eL ceTx) eInt (fun x0 x1 => (F x0 x1).map (res1 rB).enc)) } :=
  ⟨_, cc2 E_k69 Tryz.func52 rfl rfl (T := T_k69) (G := []) (r := (res1 rB)) fun x0 x1 => by
    unfold Wf
    simp (maxSteps := 10000000) (implicitDefEqProofs := false) [ty_k69, c_r04_Few, T_k69, Tryz.f52, M_k6b, an_k69_0_st, an_k69_0_un, an_k69_0_c, iC, uC, bC, sC, Tx.c]
    try rfl⟩
noncomputable def F_k69 : (List Tx) → Int → Option (Bool) := pk_k69.1
noncomputable def M_k69 : List DA → Option (List RV) := con2 (eL ceTx) eInt (fun x0 x1 => (F_k69 x0 x1).map (res1 rB).enc)
theorem cc_k69 : CallC Tryz.prog 52 M_k69 := pk_k69.2
theorem en_k6c : Enters Tryz.prog 29 := ⟨_, Tryz.func29, rfl, rfl⟩
def ty_k6c : List (Nat × TI) := [ti32, ti3, ti31]
noncomputable def C_k6c : Cfg := mkC ty_k6c [(31, [.i .i64, .i .i64, .i .i64, .i .i64, .i .i64, .s])] [] [] [] [0,1,5] [] [(6, [true, true, true, true, true, true, true, true, true])]
theorem E_k6c : Env1 Tryz.prog C_k6c := mkC_ok (by kernel_rfl) trivial (by kernel_rfl)
theorem c_r04_Txs : CIs (C_k6c) ty_k6c [(31, [.i .i64, .i .i64, .i .i64, .i .i64, .i .i64, .s])] [] [] [] [] [0,1,5] [] [(6, [true, true, true, true, true, true, true, true, true])] [] [] := ⟨rfl, rfl, rfl, rfl, rfl, rfl, rfl, rfl, rfl, rfl, rfl⟩
structure L_k6c_0 where
  a_ : List Tx
  b_ : List Tx
  i : Int
def an_k6c_0 : Ann := mkAnn (σ := L_k6c_0) (lCons (vOne (cSl ceTx)) <| lCons (vOne (cSl ceTx)) <| lSkip vUnk <| lSkip vUnk <| lSkip vUnk <| lCons (vOne cI) <| K8 <| K8 <| lSkip vUnk <| lSkip vUnk <| lSkip vUnk <| lSkip vUnk <|  lNil) ( lNil)
  (fun a b => L_k6c_0.mk (a.1) (a.2.1) (a.2.2.1)) (fun s => (s.a_, s.b_, s.i, ())) (fun s => (())) (fun a b => true) (fun _ _ _ => ⟨rfl, rfl⟩)
theorem an_k6c_0_c (C : Cfg) : an_k6c_0.c C = C := rfl
set_option maxRecDepth 100000 in
theorem an_k6c_0_st (s : an_k6c_0.σ) : an_k6c_0.st s = (toL 26 (.node (.node (.node (.node (.node (.node (.node (.node (.leaf (.v (.one (.d (.sl ((L_k6c_0.a_ s).map Tx.c)))))) (.leaf (.v (.one (.d (.sl ((L_k6c_0.b_ s).map Tx.c))))))) (.leaf (.unk))) (.node (.node (.leaf (.unk)) (.leaf (.v (.one (.d (.sc (.int .i64 (L_k6c_0.i s)))))))) (.leaf (.unk)))) (.leaf (.unk))) (.leaf (.unk))) (.leaf (.unk))) (.leaf (.unk))) (.leaf (.unk))), []) := rfl
set_option maxHeartbeats 4000000 in
set_option maxRecDepth 100000 in
theorem an_k6c_0_un {β : Type} (p_a_ : List (List DV)) (p_b_ : List (List DV)) (i : Int) (f_ : an_k6c_0.σ → Option β) : (an_k6c_0.un (.v (.one (.d (.sl p_a_))) :: .v (.one (.d (.sl p_b_))) :: .unk :: .unk :: .unk :: .v (.one (.d (.sc (.int .i64 i)))) :: U8 (U8 (.unk :: .unk :: .unk :: .unk :: []))) []).bind f_ = (decL dTx p_a_).bind fun a_ => (decL dTx p_b_).bind fun b_ => f_ (L_k6c_0.mk a_ b_ i) :=
  (mkAnn_un (σ := L_k6c_0) _ _ _ _ _ _ _ _ _ f_).trans (by simp (maxSteps := 10000000) [Option.bind_assoc, U8, U64, K8, K64])
def T_k6c : List (Nat × LoopA) := [(0, .ty an_k6c_0)]
set_option maxHeartbeats 20000000 in
set_option maxRecDepth 100000 in
noncomputable def pk_k6c : { F : (List Tx) → (List Tx) → Option (Bool) // CallC Tryz.prog 29 (con2 (eL ceTx) (eL ceTx) (fun x0 x1 => (F x0 x1).map (res1 rB).enc)) } :=
  ⟨_, cc2 E_k6c Tryz.func29 rfl rfl (T := T_k6c) (G := []) (r := (res1 rB)) fun x0 x1 => by
    unfold Wf
    simp (maxSteps := 10000000) (implicitDefEqProofs := false) [ty_k6c, c_r04_Txs, T_k6c, Tryz.f29, an_k6c_0_st, an_k6c_0_un, an_k6c_0_c, iC, uC, bC, sC, Tx.c]
    try rfl⟩
noncomputable def F_k6c : (List Tx) → (List Tx) → Option (Bool) := pk_k6c.1
noncomputable def M_k6c : List DA → Option (List RV) := con2 (eL ceTx) (eL ceTx) (fun x0 x1 => (F_k6c x0 x1).map (res1 rB).enc)
theorem cc_k6c : CallC Tryz.prog 29 M_k6c := pk_k6c.2
theorem en_k6f : Enters Tryz.prog 33 := ⟨_, Tryz.func33, rfl, rfl⟩
def ty_k6f : List (Nat × TI) := [ti65, ti32, ti3, ti31]
noncomputable def C_k6f : Cfg := mkC ty_k6f [] [] [] [(5, [(0, 31, 6)])] [1,2,4,5,6] [] []
theorem E_k6f : Env1 Tryz.prog C_k6f := mkC_ok (by kernel_rfl) trivial (by kernel_rfl)
theorem c_r05_Drop : CIs (C_k6f) ty_k6f [] [] [] [] [(5, [(0, 31, 6)])] [1,2,4,5,6] [] [] [] [] := ⟨rfl, rfl, rfl, rfl, rfl, rfl, rfl, rfl, rfl, rfl, rfl⟩
structure L_k6f_0 where
  nonce : Int
  i : Int
  a_ : Acc
  sender : Int
  base : Int
  out : List Tx
def an_k6f_0 : Ann := mkAnn (σ := L_k6f_0) (lSkip vUnk <| lCons (vOne cI) <| lSkip (vOne (cPtr 0 0 0)) <| lSkip vUnk <| lSkip (vOne (cPtr 1 0 0)) <| lCons (vOne (cOwn 2)) <| lCons (vOne cI) <| K8 <| K8 <| K8 <| lSkip vUnk <| lSkip vUnk <|  lNil) (lCons (oBox 65 (cStr ceAcc)) <| lCons (oBox 65 (lCons cI <| lCons cI <| lSkip cNil <|  lNil)) <| lCons (oArr 31 6 ceTx) <|  lNil)
  (fun a b => L_k6f_0.mk (a.1) (a.2.2.1) (b.1) (b.2.1.1) (b.2.1.2.1) (b.2.2.1)) (fun s => (s.nonce, s.out.length, s.i, ())) (fun s => (s.a_, (s.sender, s.base, ()), s.out, ())) (fun a b => decide (a.2.1 = (b.2.2.1).length)) (by rintro ⟨a0, a1, a2, _⟩ ⟨b0, ⟨c1_0, c1_1, _⟩, b2, _⟩ h; simp at h; simp [h])
theorem an_k6f_0_c (C : Cfg) : an_k6f_0.c C = C := rfl
set_option maxRecDepth 100000 in
theorem an_k6f_0_st (s : an_k6f_0.σ) : an_k6f_0.st s = (toL 33 (.node (.node (.node (.node (.node (.node (.node (.node (.leaf (.unk)) (.leaf (.v (.one (.d (.sc (.int .i64 (L_k6f_0.nonce s)))))))) (.node (.leaf (.v (.one (.ptr 0 0 0)))) (.leaf (.unk)))) (.node (.node (.leaf (.v (.one (.ptr 1 0 0)))) (.leaf (.v (.one (.own 2 (L_k6f_0.out s).length))))) (.node (.leaf (.v (.one (.d (.sc (.int .i64 (L_k6f_0.i s))))))) (.leaf (.unk))))) (.leaf (.unk))) (.leaf (.unk))) (.leaf (.unk))) (.leaf (.unk))) (.leaf (.unk))), [.box 65 (ddv (Acc.c (L_k6f_0.a_ s))), .box 65 [.d (.sc (.int .i64 (L_k6f_0.sender s))), .d (.sc (.int .i64 (L_k6f_0.base s))), .nil], .arr 31 6 ((L_k6f_0.out s).map Tx.c)]) := rfl
set_option maxHeartbeats 4000000 in
set_option maxRecDepth 100000 in
theorem an_k6f_0_un {β : Type} (nonce : Int) (m1_out : Nat) (i : Int) (p_a_ : List CV) (sender : Int) (base : Int) (p_out : List (List DV)) (f_ : an_k6f_0.σ → Option β) : (an_k6f_0.un (.unk :: .v (.one (.d (.sc (.int .i64 nonce)))) :: .v (.one (.ptr 0 0 0)) :: .unk :: .v (.one (.ptr 1 0 0)) :: .v (.one (.own 2 m1_out)) :: .v (.one (.d (.sc (.int .i64 i)))) :: U8 (U8 (U8 (.unk :: .unk :: [])))) [.box 65 p_a_, .box 65 [.d (.sc (.int .i64 sender)), .d (.sc (.int .i64 base)), .nil], .arr 31 6 p_out]).bind f_ = ((allD p_a_).bind dAcc).bind fun a_ => (decL dTx p_out).bind fun out => (if m1_out = out.length then f_ (L_k6f_0.mk nonce i a_ sender base out) else none) :=
  (mkAnn_un (σ := L_k6f_0) _ _ _ _ _ _ _ _ _ f_).trans (by simp (maxSteps := 10000000) [Option.bind_assoc, U8, U64, K8, K64, bind_ite])
def T_k6f : List (Nat × LoopA) := [(0, .ty an_k6f_0)]
set_option maxHeartbeats 20000000 in
set_option maxRecDepth 100000 in
noncomputable def pk_k6f : { F : Acc → Int → Option (Acc) // CallC Tryz.prog 33 (con2 (eT ceAcc) eInt (fun x0 x1 => (F x0 x1).map (res1 (rAgg ceAcc)).enc)) } :=
  ⟨_, cc2 E_k6f Tryz.func33 rfl rfl (T := T_k6f) (G := []) (r := (res1 (rAgg ceAcc))) fun x0 x1 => by
    unfold Wf
    simp (maxSteps := 10000000) (implicitDefEqProofs := false) [ty_k6f, c_r05_Drop, T_k6f, Tryz.f33, an_k6f_0_st, an_k6f_0_un, an_k6f_0_c, iC, uC, bC, sC, Acc.c, Tx.c]
    try rfl⟩
noncomputable def F_k6f : Acc → Int → Option (Acc) := pk_k6f.1
noncomputable def M_k6f : List DA → Option (List RV) := con2 (eT ceAcc) eInt (fun x0 x1 => (F_k6f x0 x1).map (res1 (rAgg ceAcc)).enc)
theorem cc_k6f : CallC Tryz.prog 33 M_k6f := pk_k6f.2
theorem en_k66 : Enters Tryz.prog 69 := ⟨_, Tryz.func69, rfl, rfl⟩
def ty_k66 : List (Nat × TI) := [ti31, ti3, ti9]
noncomputable def C_k66 : Cfg := mkC ty_k66 [] [] [] [] [] [] []
theorem E_k66 : Env1 Tryz.prog C_k66 := mkC_ok (by kernel_rfl) trivial (by kernel_rfl)
theorem c_r04_Check : CIs (C_k66) ty_k66 [] [] [] [] [] [] [] [] [] [] := ⟨rfl, rfl, rfl, rfl, rfl, rfl, rfl, rfl, rfl, rfl, rfl⟩
set_option maxHeartbeats 20000000 in
set_option maxRecDepth 100000 in
noncomputable def pk_k66 : { F : Tx → Option (Bool) // CallC Tryz.prog 69 (con1 (eT ceTx) (fun x0 => (F x0).map (res1 rB).enc)) } :=
  ⟨_, cc1 E_k66 Tryz.func69 rfl rfl (T := []) (G := []) (r := (res1 rB)) fun x0 => by
    unfold Wf
    simp (maxSteps := 10000000) (implicitDefEqProofs := false) [ty_k66, c_r04_Check, Tryz.f69, iC, uC, bC, sC, Tx.c]
    try rfl⟩
noncomputable def F_k66 : Tx → Option (Bool) := pk_k66.1
noncomputable def M_k66 : List DA → Option (List RV) := con1 (eT ceTx) (fun x0 => (F_k66 x0).map (res1 rB).enc)
theorem cc_k66 : CallC Tryz.prog 69 M_k66 := pk_k66.2
theorem en_k74 : Enters Tryz.prog 59 := ⟨_, Tryz.func59, rfl, rfl⟩
def ty_k74 : List (Nat × TI) := [ti65, ti3, ti32, ti31]
noncomputable def C_k74 : Cfg := mkC ty_k74 [] [(29, M_k6c)] [29] [] [] [] []
theorem E_k74 : Env1 Tryz.prog C_k74 := mkC_ok (by kernel_rfl) (⟨⟨en_k6c, cc_k6c⟩, trivial⟩) (by kernel_rfl)
theorem c_r05_Same : CIs (C_k74) ty_k74 [] [(29, M_k6c)] [29] [29] [] [] [] [] [] [] := ⟨rfl, rfl, rfl, rfl, rfl, rfl, rfl, rfl, rfl, rfl, rfl⟩
set_option maxHeartbeats 20000000 in
set_option maxRecDepth 100000 in
noncomputable def pk_k74 : { F : Acc → Acc → Option (Bool) // CallC Tryz.prog 59 (con2 (eT ceAcc) (eT ceAcc) (fun x0 x1 => (F x0 x1).map (res1 rB).enc)) } :=
  ⟨_, cc2 E_k74 Tryz.func59 rfl rfl (T := []) (G := []) (r := (res1 rB)) fun x0 x1 => by
    unfold Wf
    simp (maxSteps := 10000000) (implicitDefEqProofs := false) [ty_k74, c_r05_Same, Tryz.f59, M_k6c, iC, uC, bC, sC, Acc.c, Tx.c]
    try rfl⟩
noncomputable def F_k74 : Acc → Acc → Option (Bool) := pk_k74.1
noncomputable def M_k74 : List DA → Option (List RV) := con2 (eT ceAcc) (eT ceAcc) (fun x0 x1 => (F_k74 x0 x1).map (res1 rB).enc)
theorem cc_k74 : CallC Tryz.prog 59 M_k74 := pk_k74.2

end Go.Vm

/- What Go functions come to, as Lean functions: each with its contract. -/
set_option linter.unusedVariables false
set_option linter.unusedSimpArgs false
namespace Go.Vm
open Go Go.RowKit Go.Proofs
attribute [-simp] env0 envI evOps evOne evOp evIndexAddr evIndex evPick binV evLoad evStore loadC callV nilC storeC toDVs toDAs resRs
attribute [local simp] List.lookup List.replicate List.range_succ env0_tree envI_tree

theorem en_k72 : Enters Tryz.prog 34 := ⟨_, Tryz.func34, rfl, rfl⟩
def ty_k72 : List (Nat × TI) := [ti65, ti31, ti32, ti3]
noncomputable def C_k72 : Cfg := mkC ty_k72 [] [(32, M_k70)] [32] [(5, [(0, 31, 6)])] [2,3,4,5,6,8,9] [] []
theorem E_k72 : Env1 Tryz.prog C_k72 := mkC_ok (by kernel_rfl) (⟨⟨en_k70, cc_k70⟩, trivial⟩) (by kernel_rfl)
theorem c_r05_Put : CIs (C_k72) ty_k72 [] [(32, M_k70)] [32] [32] [(5, [(0, 31, 6)])] [2,3,4,5,6,8,9] [] [] [] [] := ⟨rfl, rfl, rfl, rfl, rfl, rfl, rfl, rfl, rfl, rfl, rfl⟩
structure L_k72_0 where
  laid : Bool
  is : Bool
  i : Int
  a_ : Acc
  t : Tx
  sender : Int
  base : Int
  out : List Tx
  o4 : Tx
def an_k72_0 : Ann := mkAnn (σ := L_k72_0) (lSkip vUnk <| lSkip vUnk <| lSkip (vOne (cPtr 0 0 0)) <| lSkip (vOne (cPtr 1 0 0)) <| lSkip (vOne (cPtr 2 0 0)) <| lCons (vOne (cOwn 3)) <| lCons (vOne cB) <| lSkip vUnk <| lCons (vOne cB) <| lCons (vOne cI) <| K8 <| K8 <| K8 <| K8 <| K8 <| K8 <| K8 <| lSkip vUnk <| lSkip vUnk <| lSkip vUnk <| lSkip vUnk <| lSkip vUnk <| lSkip vUnk <| lSkip vUnk <|  lNil) (lCons (oBox 65 (cStr ceAcc)) <| lCons (oBox 31 (cStr ceTx)) <| lCons (oBox 65 (lCons cI <| lCons cI <| lSkip cNil <|  lNil)) <| lCons (oArr 31 6 ceTx) <| lCons (oBox 31 (cStr ceTx)) <|  lNil)
  (fun a b => L_k72_0.mk (a.2.1) (a.2.2.1) (a.2.2.2.1) (b.1) (b.2.1) (b.2.2.1.1) (b.2.2.1.2.1) (b.2.2.2.1) (b.2.2.2.2.1)) (fun s => (s.out.length, s.laid, s.is, s.i, ())) (fun s => (s.a_, s.t, (s.sender, s.base, ()), s.out, s.o4, ())) (fun a b => decide (a.1 = (b.2.2.2.1).length)) (by rintro ⟨a0, a1, a2, a3, _⟩ ⟨b0, b1, ⟨c2_0, c2_1, _⟩, b3, b4, _⟩ h; simp at h; simp [h])
theorem an_k72_0_c (C : Cfg) : an_k72_0.c C = C := rfl
set_option maxRecDepth 100000 in
theorem an_k72_0_st (s : an_k72_0.σ) : an_k72_0.st s = (toL 73 (.node (.node (.node (.node (.node (.node (.node (.leaf (.unk)) (.node (.leaf (.v (.one (.ptr 0 0 0)))) (.leaf (.v (.one (.ptr 1 0 0)))))) (.node (.node (.leaf (.v (.one (.ptr 2 0 0)))) (.leaf (.v (.one (.own 3 (L_k72_0.out s).length))))) (.node (.leaf (.v (.one (.d (.sc (.bool (L_k72_0.laid s))))))) (.leaf (.unk))))) (.node (.node (.node (.leaf (.v (.one (.d (.sc (.bool (L_k72_0.is s))))))) (.leaf (.v (.one (.d (.sc (.int .i64 (L_k72_0.i s)))))))) (.leaf (.unk))) (.leaf (.unk)))) (.leaf (.unk))) (.leaf (.unk))) (.leaf (.unk))) (.leaf (.unk))), [.box 65 (ddv (Acc.c (L_k72_0.a_ s))), .box 31 (ddv (Tx.c (L_k72_0.t s))), .box 65 [.d (.sc (.int .i64 (L_k72_0.sender s))), .d (.sc (.int .i64 (L_k72_0.base s))), .nil], .arr 31 6 ((L_k72_0.out s).map Tx.c), .box 31 (ddv (Tx.c (L_k72_0.o4 s)))]) := rfl
set_option maxHeartbeats 4000000 in
set_option maxRecDepth 100000 in
theorem an_k72_0_un {β : Type} (m1_out : Nat) (laid : Bool) (is : Bool) (i : Int) (p_a_ : List CV) (p_t : List CV) (sender : Int) (base : Int) (p_out : List (List DV)) (p_o4 : List CV) (f_ : an_k72_0.σ → Option β) : (an_k72_0.un (.unk :: .unk :: .v (.one (.ptr 0 0 0)) :: .v (.one (.ptr 1 0 0)) :: .v (.one (.ptr 2 0 0)) :: .v (.one (.own 3 m1_out)) :: .v (.one (.d (.sc (.bool laid)))) :: .unk :: .v (.one (.d (.sc (.bool is)))) :: .v (.one (.d (.sc (.int .i64 i)))) :: U8 (U8 (U8 (U8 (U8 (U8 (U8 (.unk :: .unk :: .unk :: .unk :: .unk :: .unk :: .unk :: [])))))))) [.box 65 p_a_, .box 31 p_t, .box 65 [.d (.sc (.int .i64 sender)), .d (.sc (.int .i64 base)), .nil], .arr 31 6 p_out, .box 31 p_o4]).bind f_ = ((allD p_a_).bind dAcc).bind fun a_ => ((allD p_t).bind dTx).bind fun t => (decL dTx p_out).bind fun out => ((allD p_o4).bind dTx).bind fun o4 => (if m1_out = out.length then f_ (L_k72_0.mk laid is i a_ t sender base out o4) else none) :=
  (mkAnn_un (σ := L_k72_0) _ _ _ _ _ _ _ _ _ f_).trans (by simp (maxSteps := 10000000) [Option.bind_assoc, U8, U64, K8, K64, bind_ite])
def T_k72 : List (Nat × LoopA) := [(0, .ty an_k72_0)]
set_option maxHeartbeats 20000000 in
set_option maxRecDepth 100000 in
noncomputable def pk_k72 : { F : Acc → Tx → Option (Acc) // CallC Tryz.prog 34 (con2 (eT ceAcc) (eT ceTx) (fun x0 x1 => (F x0 x1).map (res1 (rAgg ceAcc)).enc)) } :=
  ⟨_, cc2 E_k72 Tryz.func34 rfl rfl (T := T_k72) (G := []) (r := (res1 (rAgg ceAcc))) fun x0 x1 => by
    unfold Wf
    simp (maxSteps := 10000000) (implicitDefEqProofs := false) [ty_k72, c_r05_Put, T_k72, Tryz.f34, M_k70, an_k72_0_st, an_k72_0_un, an_k72_0_c, iC, uC, bC, sC, Acc.c, Tx.c]
    try rfl⟩
noncomputable def F_k72 : Acc → Tx → Option (Acc) := pk_k72.1
noncomputable def M_k72 : List DA → Option (List RV) := con2 (eT ceAcc) (eT ceTx) (fun x0 x1 => (F_k72 x0 x1).map (res1 (rAgg ceAcc)).enc)
theorem cc_k72 : CallC Tryz.prog 34 M_k72 := pk_k72.2
theorem en_k6d : Enters Tryz.prog 98 := ⟨_, Tryz.func98, rfl, rfl⟩
def ty_k6d : List (Nat × TI) := [ti65, ti32, ti3, ti31]
noncomputable def C_k6d : Cfg := mkC ty_k6d [] [] [] [(5, [(0, 31, 6)]), (7, [(0, 31, 6)]), (8, [(0, 31, 6)])] [1,2,4,7,8,9] [] []
theorem E_k6d : Env1 Tryz.prog C_k6d := mkC_ok (by kernel_rfl) trivial (by kernel_rfl)
theorem c_r05_Advance : CIs (C_k6d) ty_k6d [] [] [] [] [(5, [(0, 31, 6)]), (7, [(0, 31, 6)]), (8, [(0, 31, 6)])] [1,2,4,7,8,9] [] [] [] [] := ⟨rfl, rfl, rfl, rfl, rfl, rfl, rfl, rfl, rfl, rfl, rfl⟩
structure L_k6d_0 where
  base : Int
  i : Int
  a_ : Acc
  sender : Int
  base2 : Int
  o2 : List Tx
  left : List Tx
  gone : List Tx
def an_k6d_0 : Ann := mkAnn (σ := L_k6d_0) (lSkip vUnk <| lCons (vOne cI) <| lSkip (vOne (cPtr 0 0 0)) <| lSkip vUnk <| lSkip (vOne (cPtr 1 0 0)) <| lSkip vUnk <| lSkip vUnk <| lCons (vOne (cOwn 3)) <| lCons (vOne (cOwn 4)) <| lCons (vOne cI) <| K8 <| K8 <| K8 <| K8 <| K8 <| K8 <| lSkip vUnk <|  lNil) (lCons (oBox 65 (cStr ceAcc)) <| lCons (oBox 65 (lCons cI <| lCons cI <| lSkip cNil <|  lNil)) <| lCons (oArr 31 6 ceTx) <| lCons (oArr 31 6 ceTx) <| lCons (oArr 31 6 ceTx) <|  lNil)
  (fun a b => L_k6d_0.mk (a.1) (a.2.2.2.1) (b.1) (b.2.1.1) (b.2.1.2.1) (b.2.2.1) (b.2.2.2.1) (b.2.2.2.2.1)) (fun s => (s.base, s.left.length, s.gone.length, s.i, ())) (fun s => (s.a_, (s.sender, s.base2, ()), s.o2, s.left, s.gone, ())) (fun a b => decide (a.2.1 = (b.2.2.2.1).length) && decide (a.2.2.1 = (b.2.2.2.2.1).length)) (by rintro ⟨a0, a1, a2, a3, _⟩ ⟨b0, ⟨c1_0, c1_1, _⟩, b2, b3, b4, _⟩ h; simp at h; simp [h])
theorem an_k6d_0_c (C : Cfg) : an_k6d_0.c C = C := rfl
set_option maxRecDepth 100000 in
theorem an_k6d_0_st (s : an_k6d_0.σ) : an_k6d_0.st s = (toL 59 (.node (.node (.node (.node (.node (.node (.node (.node (.leaf (.unk)) (.leaf (.v (.one (.d (.sc (.int .i64 (L_k6d_0.base s)))))))) (.node (.leaf (.v (.one (.ptr 0 0 0)))) (.leaf (.unk)))) (.node (.node (.leaf (.v (.one (.ptr 1 0 0)))) (.leaf (.unk))) (.node (.leaf (.unk)) (.leaf (.v (.one (.own 3 (L_k6d_0.left s).length))))))) (.node (.node (.node (.leaf (.v (.one (.own 4 (L_k6d_0.gone s).length)))) (.leaf (.v (.one (.d (.sc (.int .i64 (L_k6d_0.i s)))))))) (.leaf (.unk))) (.leaf (.unk)))) (.leaf (.unk))) (.leaf (.unk))) (.leaf (.unk))) (.leaf (.unk))), [.box 65 (ddv (Acc.c (L_k6d_0.a_ s))), .box 65 [.d (.sc (.int .i64 (L_k6d_0.sender s))), .d (.sc (.int .i64 (L_k6d_0.base2 s))), .nil], .arr 31 6 ((L_k6d_0.o2 s).map Tx.c), .arr 31 6 ((L_k6d_0.left s).map Tx.c), .arr 31 6 ((L_k6d_0.gone s).map Tx.c)]) := rfl
set_option maxHeartbeats 4000000 in
set_option maxRecDepth 100000 in
theorem an_k6d_0_un {β : Type} (base : Int) (m1_left : Nat) (m2_gone : Nat) (i : Int) (p_a_ : List CV) (sender : Int) (base2 : Int) (p_o2 : List (List DV)) (p_left : List (List DV)) (p_gone : List (List DV)) (f_ : an_k6d_0.σ → Option β) : (an_k6d_0.un (.unk :: .v (.one (.d (.sc (.int .i64 base)))) :: .v (.one (.ptr 0 0 0)) :: .unk :: .v (.one (.ptr 1 0 0)) :: .unk :: .unk :: .v (.one (.own 3 m1_left)) :: .v (.one (.own 4 m2_gone)) :: .v (.one (.d (.sc (.int .i64 i)))) :: U8 (U8 (U8 (U8 (U8 (U8 (.unk :: []))))))) [.box 65 p_a_, .box 65 [.d (.sc (.int .i64 sender)), .d (.sc (.int .i64 base2)), .nil], .arr 31 6 p_o2, .arr 31 6 p_left, .arr 31 6 p_gone]).bind f_ = ((allD p_a_).bind dAcc).bind fun a_ => (decL dTx p_o2).bind fun o2 => (decL dTx p_left).bind fun left => (decL dTx p_gone).bind fun gone => (if m1_left = left.length ∧ m2_gone = gone.length then f_ (L_k6d_0.mk base i a_ sender base2 o2 left gone) else none) :=
  (mkAnn_un (σ := L_k6d_0) _ _ _ _ _ _ _ _ _ f_).trans (by simp (maxSteps := 10000000) [Option.bind_assoc, U8, U64, K8, K64, bind_ite])
def T_k6d : List (Nat × LoopA) := [(0, .ty an_k6d_0)]
set_option maxHeartbeats 20000000 in
set_option maxRecDepth 100000 in
noncomputable def pk_k6d : { F : Acc → Int → Option (Acc × (List Tx) × Int) // CallC Tryz.prog 98 (con2 (eT ceAcc) eInt (fun x0 x1 => (F x0 x1).map (res3 (rAgg ceAcc) (rSl ceTx) rI).enc)) } :=
  ⟨_, cc2 E_k6d Tryz.func98 rfl rfl (T := T_k6d) (G := []) (r := (res3 (rAgg ceAcc) (rSl ceTx) rI)) fun x0 x1 => by
    unfold Wf
    simp (maxSteps := 10000000) (implicitDefEqProofs := false) [ty_k6d, c_r05_Advance, T_k6d, Tryz.f98, an_k6d_0_st, an_k6d_0_un, an_k6d_0_c, iC, uC, bC, sC, Acc.c, Tx.c]
    try rfl⟩
noncomputable def F_k6d : Acc → Int → Option (Acc × (List Tx) × Int) := pk_k6d.1
noncomputable def M_k6d : List DA → Option (List RV) := con2 (eT ceAcc) eInt (fun x0 x1 => (F_k6d x0 x1).map (res3 (rAgg ceAcc) (rSl ceTx) rI).enc)
theorem cc_k6d : CallC Tryz.prog 98 M_k6d := pk_k6d.2
theorem en_k6e : Enters Tryz.prog 62 := ⟨_, Tryz.func62, rfl, rfl⟩
def ty_k6e : List (Nat × TI) := [ti65, ti3, ti32, ti31]
noncomputable def C_k6e : Cfg := mkC ty_k6e [] [(69, M_k66)] [69] [] [2,5] [] [(7, [false, false, true, true, true, true, true, true, true, true, true, true, true, true, true, true, true, true, true, true, true, true, true, true, true, true, true, true, true, true, true, true, true])]
theorem E_k6e : Env1 Tryz.prog C_k6e := mkC_ok (by kernel_rfl) (⟨⟨en_k66, cc_k66⟩, trivial⟩) (by kernel_rfl)
theorem c_r05_Check : CIs (C_k6e) ty_k6e [] [(69, M_k66)] [69] [69] [] [2,5] [] [(7, [false, false, true, true, true, true, true, true, true, true, true, true, true, true, true, true, true, true, true, true, true, true, true, true, true, true, true, true, true, true, true, true, true])] [] [] := ⟨rfl, rfl, rfl, rfl, rfl, rfl, rfl, rfl, rfl, rfl, rfl⟩
structure L_k6e_0 where
  i : Int
  a_ : Acc
def an_k6e_0 : Ann := mkAnn (σ := L_k6e_0) (lSkip vUnk <| lSkip vUnk <| lSkip (vOne (cPtr 0 0 0)) <| lSkip vUnk <| lSkip vUnk <| lCons (vOne cI) <| K64 <| K8 <| lSkip vUnk <| lSkip vUnk <| lSkip vUnk <| lSkip vUnk <| lSkip vUnk <| lSkip vUnk <| lSkip vUnk <|  lNil) (lCons (oBox 65 (cStr ceAcc)) <|  lNil)
  (fun a b => L_k6e_0.mk (a.1) (b.1)) (fun s => (s.i, ())) (fun s => (s.a_, ())) (fun a b => true) (fun _ _ _ => ⟨rfl, rfl⟩)
theorem an_k6e_0_c (C : Cfg) : an_k6e_0.c C = C := rfl
set_option maxRecDepth 100000 in
theorem an_k6e_0_st (s : an_k6e_0.σ) : an_k6e_0.st s = (toL 85 (.node (.node (.node (.node (.node (.node (.node (.leaf (.unk)) (.node (.leaf (.v (.one (.ptr 0 0 0)))) (.leaf (.unk)))) (.node (.node (.leaf (.unk)) (.leaf (.v (.one (.d (.sc (.int .i64 (L_k6e_0.i s)))))))) (.leaf (.unk)))) (.leaf (.unk))) (.leaf (.unk))) (.leaf (.unk))) (.leaf (.unk))) (.leaf (.unk))), [.box 65 (ddv (Acc.c (L_k6e_0.a_ s)))]) := rfl
set_option maxHeartbeats 4000000 in
set_option maxRecDepth 100000 in
theorem an_k6e_0_un {β : Type} (i : Int) (p_a_ : List CV) (f_ : an_k6e_0.σ → Option β) : (an_k6e_0.un (.unk :: .unk :: .v (.one (.ptr 0 0 0)) :: .unk :: .unk :: .v (.one (.d (.sc (.int .i64 i)))) :: U64 (U8 (.unk :: .unk :: .unk :: .unk :: .unk :: .unk :: .unk :: []))) [.box 65 p_a_]).bind f_ = ((allD p_a_).bind dAcc).bind fun a_ => f_ (L_k6e_0.mk i a_) :=
  (mkAnn_un (σ := L_k6e_0) _ _ _ _ _ _ _ _ _ f_).trans (by simp (maxSteps := 10000000) [Option.bind_assoc, U8, U64, K8, K64])
def T_k6e : List (Nat × LoopA) := [(0, .ty an_k6e_0)]
set_option maxHeartbeats 20000000 in
set_option maxRecDepth 100000 in
noncomputable def pk_k6e : { F : Acc → Int → Option (Bool) // CallC Tryz.prog 62 (con2 (eT ceAcc) eInt (fun x0 x1 => (F x0 x1).map (res1 rB).enc)) } :=
  ⟨_, cc2 E_k6e Tryz.func62 rfl rfl (T := T_k6e) (G := []) (r := (res1 rB)) fun x0 x1 => by
    unfold Wf
    simp (maxSteps := 10000000) (implicitDefEqProofs := false) [ty_k6e, c_r05_Check, T_k6e, Tryz.f62, M_k66, an_k6e_0_st, an_k6e_0_un, an_k6e_0_c, iC, uC, bC, sC, Acc.c, Tx.c]
    try rfl⟩
noncomputable def F_k6e : Acc → Int → Option (Bool) := pk_k6e.1
noncomputable def M_k6e : List DA → Option (List RV) := con2 (eT ceAcc) eInt (fun x0 x1 => (F_k6e x0 x1).map (res1 rB).enc)
theorem cc_k6e : CallC Tryz.prog 62 M_k6e := pk_k6e.2
theorem en_k63 : Enters Tryz.prog 71 := ⟨_, Tryz.func71, rfl, rfl⟩
def ty_k63 : List (Nat × TI) := [ti9, ti3, ti5, ti165]
noncomputable def C_k63 : Cfg := mkC ty_k63 [] [] [] [] [] [] []
theorem E_k63 : Env1 Tryz.prog C_k63 := mkC_ok (by kernel_rfl) trivial (by kernel_rfl)
theorem c_r03_Text : CIs (C_k63) ty_k63 [] [] [] [] [] [] [] [] [] [] := ⟨rfl, rfl, rfl, rfl, rfl, rfl, rfl, rfl, rfl, rfl, rfl⟩
set_option maxHeartbeats 20000000 in
set_option maxRecDepth 100000 in
noncomputable def pk_k63 : { F : ByteArray → Option (ByteArray) // CallC Tryz.prog 71 (con1 eStr (fun x0 => (F x0).map (res1 rS).enc)) } :=
  ⟨_, cc1 E_k63 Tryz.func71 rfl rfl (T := []) (G := []) (r := (res1 rS)) fun x0 => by
    unfold Wf
    simp (maxSteps := 10000000) (implicitDefEqProofs := false) [ty_k63, c_r03_Text, Tryz.f71, iC, uC, bC, sC]
    try rfl⟩
noncomputable def F_k63 : ByteArray → Option (ByteArray) := pk_k63.1
noncomputable def M_k63 : List DA → Option (List RV) := con1 eStr (fun x0 => (F_k63 x0).map (res1 rS).enc)
theorem cc_k63 : CallC Tryz.prog 71 M_k63 := pk_k63.2
theorem en_k62 : Enters Tryz.prog 138 := ⟨_, Tryz.func138, rfl, rfl⟩
def ty_k62 : List (Nat × TI) := [ti9, ti3, ti5]
noncomputable def C_k62 : Cfg := mkC ty_k62 [] [] [] [] [] [] [(3, [true, true, true, true, true, true, true, true, true]), (6, [true, true, true, true, true, true, true, true, true, true, true])]
theorem E_k62 : Env1 Tryz.prog C_k62 := mkC_ok (by kernel_rfl) trivial (by kernel_rfl)
theorem c_r03_TakeText : CIs (C_k62) ty_k62 [] [] [] [] [] [] [] [(3, [true, true, true, true, true, true, true, true, true]), (6, [true, true, true, true, true, true, true, true, true, true, true])] [] [] := ⟨rfl, rfl, rfl, rfl, rfl, rfl, rfl, rfl, rfl, rfl, rfl⟩
set_option maxHeartbeats 20000000 in
set_option maxRecDepth 100000 in
noncomputable def pk_k62 : { F : ByteArray → Int → Option (ByteArray × ByteArray × Bool) // CallC Tryz.prog 138 (con2 eStr eInt (fun x0 x1 => (F x0 x1).map (res3 rS rS rB).enc)) } :=
  ⟨_, cc2 E_k62 Tryz.func138 rfl rfl (T := []) (G := []) (r := (res3 rS rS rB)) fun x0 x1 => by
    unfold Wf
    simp (maxSteps := 10000000) (implicitDefEqProofs := false) [ty_k62, c_r03_TakeText, Tryz.f138, iC, uC, bC, sC]
    try rfl⟩
noncomputable def F_k62 : ByteArray → Int → Option (ByteArray × ByteArray × Bool) := pk_k62.1
noncomputable def M_k62 : List DA → Option (List RV) := con2 eStr eInt (fun x0 x1 => (F_k62 x0 x1).map (res3 rS rS rB).enc)
theorem cc_k62 : CallC Tryz.prog 138 M_k62 := pk_k62.2
theorem en_k8f : Enters Tryz.prog 17 := ⟨_, Tryz.func17, rfl, rfl⟩
def ty_k8f : List (Nat × TI) := [ti39, ti29, ti31, ti3, ti32]
noncomputable def C_k8f : Cfg := mkC ty_k8f [(31, [.i .i64, .i .i64, .i .i64, .i .i64, .i .i64, .s])] [(29, M_k6c)] [29] [] [] [] []
theorem E_k8f : Env1 Tryz.prog C_k8f := mkC_ok (by kernel_rfl) (⟨⟨en_k6c, cc_k6c⟩, trivial⟩) (by kernel_rfl)
theorem c_r13_Same : CIs (C_k8f) ty_k8f [(31, [.i .i64, .i .i64, .i .i64, .i .i64, .i .i64, .s])] [(29, M_k6c)] [29] [29] [] [] [] [] [] [] := ⟨rfl, rfl, rfl, rfl, rfl, rfl, rfl, rfl, rfl, rfl, rfl⟩
set_option maxHeartbeats 20000000 in
set_option maxRecDepth 100000 in
noncomputable def pk_k8f : { F : Result → Result → Option (Bool) // CallC Tryz.prog 17 (con2 (eT ceResult) (eT ceResult) (fun x0 x1 => (F x0 x1).map (res1 rB).enc)) } :=
  ⟨_, cc2 E_k8f Tryz.func17 rfl rfl (T := []) (G := []) (r := (res1 rB)) fun x0 x1 => by
    unfold Wf
    simp (maxSteps := 10000000) (implicitDefEqProofs := false) [ty_k8f, c_r13_Same, Tryz.f17, M_k6c, iC, uC, bC, sC, Result.c, Tx.c]
    try rfl⟩
noncomputable def F_k8f : Result → Result → Option (Bool) := pk_k8f.1
noncomputable def M_k8f : List DA → Option (List RV) := con2 (eT ceResult) (eT ceResult) (fun x0 x1 => (F_k8f x0 x1).map (res1 rB).enc)
theorem cc_k8f : CallC Tryz.prog 17 M_k8f := pk_k8f.2
theorem en_ka5 : Enters Tryz.prog 151 := ⟨_, Tryz.func151, rfl, rfl⟩
def ty_ka5 : List (Nat × TI) := [ti3]
noncomputable def C_ka5 : Cfg := mkC ty_ka5 [] [] [] [] [] [] []
theorem E_ka5 : Env1 Tryz.prog C_ka5 := mkC_ok (by kernel_rfl) trivial (by kernel_rfl)
theorem c_sat_Raise : CIs (C_ka5) ty_ka5 [] [] [] [] [] [] [] [] [] [] := ⟨rfl, rfl, rfl, rfl, rfl, rfl, rfl, rfl, rfl, rfl, rfl⟩
set_option maxHeartbeats 20000000 in
set_option maxRecDepth 100000 in
noncomputable def pk_ka5 : { F : Int → Int → Option (Int × Bool) // CallC Tryz.prog 151 (con2 eInt eInt (fun x0 x1 => (F x0 x1).map (res2 rI rB).enc)) } :=
  ⟨_, cc2 E_ka5 Tryz.func151 rfl rfl (T := []) (G := []) (r := (res2 rI rB)) fun x0 x1 => by
    unfold Wf
    simp (maxSteps := 10000000) (implicitDefEqProofs := false) [ty_ka5, c_sat_Raise, Tryz.f151, iC, uC, bC, sC]
    try rfl⟩
noncomputable def F_ka5 : Int → Int → Option (Int × Bool) := pk_ka5.1
noncomputable def M_ka5 : List DA → Option (List RV) := con2 eInt eInt (fun x0 x1 => (F_ka5 x0 x1).map (res2 rI rB).enc)
theorem cc_ka5 : CallC Tryz.prog 151 M_ka5 := pk_ka5.2
theorem en_ka6 : Enters Tryz.prog 174 := ⟨_, Tryz.func174, rfl, rfl⟩
def ty_ka6 : List (Nat × TI) := [ti3]
noncomputable def C_ka6 : Cfg := mkC ty_ka6 [] [] [] [] [] [] []
theorem E_ka6 : Env1 Tryz.prog C_ka6 := mkC_ok (by kernel_rfl) trivial (by kernel_rfl)
theorem c_sat_Slots : CIs (C_ka6) ty_ka6 [] [] [] [] [] [] [] [] [] [] := ⟨rfl, rfl, rfl, rfl, rfl, rfl, rfl, rfl, rfl, rfl, rfl⟩
set_option maxHeartbeats 20000000 in
set_option maxRecDepth 100000 in
noncomputable def pk_ka6 : { F : Int → Option (Int) // CallC Tryz.prog 174 (con1 eInt (fun x0 => (F x0).map (res1 rI).enc)) } :=
  ⟨_, cc1 E_ka6 Tryz.func174 rfl rfl (T := []) (G := []) (r := (res1 rI)) fun x0 => by
    unfold Wf
    simp (maxSteps := 10000000) (implicitDefEqProofs := false) [ty_ka6, c_sat_Slots, Tryz.f174, iC, uC, bC, sC]
    try rfl⟩
noncomputable def F_ka6 : Int → Option (Int) := pk_ka6.1
noncomputable def M_ka6 : List DA → Option (List RV) := con1 eInt (fun x0 => (F_ka6 x0).map (res1 rI).enc)
theorem cc_ka6 : CallC Tryz.prog 174 M_ka6 := pk_ka6.2
theorem en_kd2 : Enters Tryz.prog 140 := ⟨_, Tryz.func140, rfl, rfl⟩
def ty_kd2 : List (Nat × TI) := [ti3]
noncomputable def C_kd2 : Cfg := mkC ty_kd2 [] [] [] [] [] [] []
theorem E_kd2 : Env1 Tryz.prog C_kd2 := mkC_ok (by kernel_rfl) trivial (by kernel_rfl)
theorem c_txn_in : CIs (C_kd2) ty_kd2 [] [] [] [] [] [] [] [] [] [] := ⟨rfl, rfl, rfl, rfl, rfl, rfl, rfl, rfl, rfl, rfl, rfl⟩
set_option maxHeartbeats 20000000 in
set_option maxRecDepth 100000 in
noncomputable def pk_kd2 : { F : Int → Int → Int → Option (Bool) // CallC Tryz.prog 140 (con3 eInt eInt eInt (fun x0 x1 x2 => (F x0 x1 x2).map (res1 rB).enc)) } :=
  ⟨_, cc3 E_kd2 Tryz.func140 rfl rfl (T := []) (G := []) (r := (res1 rB)) fun x0 x1 x2 => by
    unfold Wf
    simp (maxSteps := 10000000) (implicitDefEqProofs := false) [ty_kd2, c_txn_in, Tryz.f140, iC, uC, bC, sC]
    try rfl⟩
noncomputable def F_kd2 : Int → Int → Int → Option (Bool) := pk_kd2.1
noncomputable def M_kd2 : List DA → Option (List RV) := con3 eInt eInt eInt (fun x0 x1 x2 => (F_kd2 x0 x1 x2).map (res1 rB).enc)
theorem cc_kd2 : CallC Tryz.prog 140 M_kd2 := pk_kd2.2
theorem en_kce : Enters Tryz.prog 102 := ⟨_, Tryz.func102, rfl, rfl⟩
def ty_kce : List (Nat × TI) := [ti31, ti3, ti9]
noncomputable def C_kce : Cfg := mkC ty_kce [] [(140, M_kd2)] [140] [] [] [] []
theorem E_kce : Env1 Tryz.prog C_kce := mkC_ok (by kernel_rfl) (⟨⟨en_kd2, cc_kd2⟩, trivial⟩) (by kernel_rfl)
theorem c_txn_Check : CIs (C_kce) ty_kce [] [(140, M_kd2)] [140] [140] [] [] [] [] [] [] := ⟨rfl, rfl, rfl, rfl, rfl, rfl, rfl, rfl, rfl, rfl, rfl⟩
set_option maxHeartbeats 20000000 in
set_option maxRecDepth 100000 in
noncomputable def pk_kce : { F : Tx → Option (Bool) // CallC Tryz.prog 102 (con1 (eT ceTx) (fun x0 => (F x0).map (res1 rB).enc)) } :=
  ⟨_, cc1 E_kce Tryz.func102 rfl rfl (T := []) (G := []) (r := (res1 rB)) fun x0 => by
    unfold Wf
    simp (maxSteps := 10000000) (implicitDefEqProofs := false) [ty_kce, c_txn_Check, Tryz.f102, M_kd2, iC, uC, bC, sC, Tx.c]
    try rfl⟩
noncomputable def F_kce : Tx → Option (Bool) := pk_kce.1
noncomputable def M_kce : List DA → Option (List RV) := con1 (eT ceTx) (fun x0 => (F_kce x0).map (res1 rB).enc)
theorem cc_kce : CallC Tryz.prog 102 M_kce := pk_kce.2
theorem en_k59 : Enters Tryz.prog 101 := ⟨_, Tryz.func101, rfl, rfl⟩
def ty_k59 : List (Nat × TI) := [ti3]
noncomputable def C_k59 : Cfg := mkC ty_k59 [] [] [] [] [] [] []
theorem E_k59 : Env1 Tryz.prog C_k59 := mkC_ok (by kernel_rfl) trivial (by kernel_rfl)
theorem c_queue_in : CIs (C_k59) ty_k59 [] [] [] [] [] [] [] [] [] [] := ⟨rfl, rfl, rfl, rfl, rfl, rfl, rfl, rfl, rfl, rfl, rfl⟩
set_option maxHeartbeats 20000000 in
set_option maxRecDepth 100000 in
noncomputable def pk_k59 : { F : Int → Int → Int → Option (Bool) // CallC Tryz.prog 101 (con3 eInt eInt eInt (fun x0 x1 x2 => (F x0 x1 x2).map (res1 rB).enc)) } :=
  ⟨_, cc3 E_k59 Tryz.func101 rfl rfl (T := []) (G := []) (r := (res1 rB)) fun x0 x1 x2 => by
    unfold Wf
    simp (maxSteps := 10000000) (implicitDefEqProofs := false) [ty_k59, c_queue_in, Tryz.f101, iC, uC, bC, sC]
    try rfl⟩
noncomputable def F_k59 : Int → Int → Int → Option (Bool) := pk_k59.1
noncomputable def M_k59 : List DA → Option (List RV) := con3 eInt eInt eInt (fun x0 x1 x2 => (F_k59 x0 x1 x2).map (res1 rB).enc)
theorem cc_k59 : CallC Tryz.prog 101 M_k59 := pk_k59.2
theorem en_k51 : Enters Tryz.prog 61 := ⟨_, Tryz.func61, rfl, rfl⟩
def ty_k51 : List (Nat × TI) := [ti65, ti3, ti32, ti31]
noncomputable def C_k51 : Cfg := mkC ty_k51 [] [(101, M_k59), (102, M_kce)] [101, 102] [] [2,5,33,34,35] [] []
theorem E_k51 : Env1 Tryz.prog C_k51 := mkC_ok (by kernel_rfl) (⟨⟨en_k59, cc_k59⟩, ⟨⟨en_kce, cc_kce⟩, trivial⟩⟩) (by kernel_rfl)
theorem c_queue_Check : CIs (C_k51) ty_k51 [] [(101, M_k59), (102, M_kce)] [101, 102] [101, 102] [] [2,5,33,34,35] [] [] [] [] := ⟨rfl, rfl, rfl, rfl, rfl, rfl, rfl, rfl, rfl, rfl, rfl⟩
structure L_k51_0 where
  next : Int
  v33 : List Tx
  v34 : Int
  v35 : Int
  a_ : Acc
def an_k51_0 : Ann := mkAnn (σ := L_k51_0) (lSkip vUnk <| lSkip vUnk <| lSkip (vOne (cPtr 0 0 0)) <| lSkip vUnk <| lSkip vUnk <| lCons (vOne cI) <| K8 <| K8 <| K8 <| lSkip vUnk <| lSkip vUnk <| lSkip vUnk <| lCons (vOne (cSl ceTx)) <| lCons (vOne cI) <| lCons (vOne cI) <| K8 <| K8 <| lSkip vUnk <| lSkip vUnk <| lSkip vUnk <| lSkip vUnk <| lSkip vUnk <| lSkip vUnk <| lSkip vUnk <|  lNil) (lCons (oBox 65 (cStr ceAcc)) <|  lNil)
  (fun a b => L_k51_0.mk (a.1) (a.2.1) (a.2.2.1) (a.2.2.2.1) (b.1)) (fun s => (s.next, s.v33, s.v34, s.v35, ())) (fun s => (s.a_, ())) (fun a b => true) (fun _ _ _ => ⟨rfl, rfl⟩)
theorem an_k51_0_c (C : Cfg) : an_k51_0.c C = C := rfl
set_option maxRecDepth 100000 in
theorem an_k51_0_st (s : an_k51_0.σ) : an_k51_0.st s = (toL 59 (.node (.node (.node (.node (.node (.node (.node (.leaf (.unk)) (.node (.leaf (.v (.one (.ptr 0 0 0)))) (.leaf (.unk)))) (.node (.node (.leaf (.unk)) (.leaf (.v (.one (.d (.sc (.int .i64 (L_k51_0.next s)))))))) (.leaf (.unk)))) (.leaf (.unk))) (.leaf (.unk))) (.node (.node (.node (.node (.node (.leaf (.unk)) (.leaf (.v (.one (.d (.sl ((L_k51_0.v33 s).map Tx.c))))))) (.node (.leaf (.v (.one (.d (.sc (.int .i64 (L_k51_0.v34 s))))))) (.leaf (.v (.one (.d (.sc (.int .i64 (L_k51_0.v35 s))))))))) (.leaf (.unk))) (.leaf (.unk))) (.leaf (.unk)))) (.leaf (.unk))) (.leaf (.unk))), [.box 65 (ddv (Acc.c (L_k51_0.a_ s)))]) := rfl
set_option maxHeartbeats 4000000 in
set_option maxRecDepth 100000 in
theorem an_k51_0_un {β : Type} (next : Int) (p_v33 : List (List DV)) (v34 : Int) (v35 : Int) (p_a_ : List CV) (f_ : an_k51_0.σ → Option β) : (an_k51_0.un (.unk :: .unk :: .v (.one (.ptr 0 0 0)) :: .unk :: .unk :: .v (.one (.d (.sc (.int .i64 next)))) :: U8 (U8 (U8 (.unk :: .unk :: .unk :: .v (.one (.d (.sl p_v33))) :: .v (.one (.d (.sc (.int .i64 v34)))) :: .v (.one (.d (.sc (.int .i64 v35)))) :: U8 (U8 (.unk :: .unk :: .unk :: .unk :: .unk :: .unk :: .unk :: [])))))) [.box 65 p_a_]).bind f_ = (decL dTx p_v33).bind fun v33 => ((allD p_a_).bind dAcc).bind fun a_ => f_ (L_k51_0.mk next v33 v34 v35 a_) :=
  (mkAnn_un (σ := L_k51_0) _ _ _ _ _ _ _ _ _ f_).trans (by simp (maxSteps := 10000000) [Option.bind_assoc, U8, U64, K8, K64])
def T_k51 : List (Nat × LoopA) := [(0, .ty an_k51_0)]
set_option maxHeartbeats 20000000 in
set_option maxRecDepth 100000 in
noncomputable def pk_k51 : { F : Acc → Int → Option (Bool) // CallC Tryz.prog 61 (con2 (eT ceAcc) eInt (fun x0 x1 => (F x0 x1).map (res1 rB).enc)) } :=
  ⟨_, cc2 E_k51 Tryz.func61 rfl rfl (T := T_k51) (G := []) (r := (res1 rB)) fun x0 x1 => by
    unfold Wf
    simp (maxSteps := 10000000) (implicitDefEqProofs := false) [ty_k51, c_queue_Check, T_k51, Tryz.f61, M_k59, M_kce, an_k51_0_st, an_k51_0_un, an_k51_0_c, iC, uC, bC, sC, Acc.c, Tx.c]
    try rfl⟩
noncomputable def F_k51 : Acc → Int → Option (Bool) := pk_k51.1
noncomputable def M_k51 : List DA → Option (List RV) := con2 (eT ceAcc) eInt (fun x0 x1 => (F_k51 x0 x1).map (res1 rB).enc)
theorem cc_k51 : CallC Tryz.prog 61 M_k51 := pk_k51.2
theorem en_k54 : Enters Tryz.prog 108 := ⟨_, Tryz.func108, rfl, rfl⟩
def ty_k54 : List (Nat × TI) := [ti65, ti31, ti32, ti3]
noncomputable def C_k54 : Cfg := mkC ty_k54 [] [(143, M_k5a)] [143] [] [] [] []
theorem E_k54 : Env1 Tryz.prog C_k54 := mkC_ok (by kernel_rfl) (⟨⟨en_k5a, cc_k5a⟩, trivial⟩) (by kernel_rfl)
theorem c_queue_Find : CIs (C_k54) ty_k54 [] [(143, M_k5a)] [143] [143] [] [] [] [] [] [] := ⟨rfl, rfl, rfl, rfl, rfl, rfl, rfl, rfl, rfl, rfl, rfl⟩
set_option maxHeartbeats 20000000 in
set_option maxRecDepth 100000 in
noncomputable def pk_k54 : { F : Acc → Int → Option (Tx × Bool) // CallC Tryz.prog 108 (con2 (eT ceAcc) eInt (fun x0 x1 => (F x0 x1).map (res2 (rAgg ceTx) rB).enc)) } :=
  ⟨_, cc2 E_k54 Tryz.func108 rfl rfl (T := []) (G := []) (r := (res2 (rAgg ceTx) rB)) fun x0 x1 => by
    unfold Wf
    simp (maxSteps := 10000000) (implicitDefEqProofs := false) [ty_k54, c_queue_Find, Tryz.f108, M_k5a, iC, uC, bC, sC, Acc.c, Tx.c]
    try rfl⟩
noncomputable def F_k54 : Acc → Int → Option (Tx × Bool) := pk_k54.1
noncomputable def M_k54 : List DA → Option (List RV) := con2 (eT ceAcc) eInt (fun x0 x1 => (F_k54 x0 x1).map (res2 (rAgg ceTx) rB).enc)
theorem cc_k54 : CallC Tryz.prog 108 M_k54 := pk_k54.2
theorem en_k50 : Enters Tryz.prog 118 := ⟨_, Tryz.func118, rfl, rfl⟩
def ty_k50 : List (Nat × TI) := [ti65, ti32, ti3, ti31]
noncomputable def C_k50 : Cfg := mkC ty_k50 [] [(101, M_k59)] [101] [(5, [(0, 31, 6)]), (7, [(0, 31, 6)]), (8, [(0, 31, 6)])] [1,2,4,7,8,23,24,25] [] []
theorem E_k50 : Env1 Tryz.prog C_k50 := mkC_ok (by kernel_rfl) (⟨⟨en_k59, cc_k59⟩, trivial⟩) (by kernel_rfl)
theorem c_queue_Advance : CIs (C_k50) ty_k50 [] [(101, M_k59)] [101] [101] [(5, [(0, 31, 6)]), (7, [(0, 31, 6)]), (8, [(0, 31, 6)])] [1,2,4,7,8,23,24,25] [] [] [] [] := ⟨rfl, rfl, rfl, rfl, rfl, rfl, rfl, rfl, rfl, rfl, rfl⟩
structure L_k50_1 where
  base : Int
  v23 : List Tx
  v24 : Int
  v25 : Int
  a_ : Acc
  sender : Int
  base2 : Int
  o2 : List Tx
  left : List Tx
  gone : List Tx
def an_k50_1 : Ann := mkAnn (σ := L_k50_1) (lSkip vUnk <| lCons (vOne cI) <| lSkip (vOne (cPtr 0 0 0)) <| lSkip vUnk <| lSkip (vOne (cPtr 1 0 0)) <| lSkip vUnk <| lSkip vUnk <| lCons (vOne (cOwn 3)) <| lCons (vOne (cOwn 4)) <| K8 <| lSkip vUnk <| lSkip vUnk <| lSkip vUnk <| lSkip vUnk <| lSkip vUnk <| lSkip vUnk <| lCons (vOne (cSl ceTx)) <| lCons (vOne cI) <| lCons (vOne cI) <| K8 <| K8 <| lSkip vUnk <| lSkip vUnk <| lSkip vUnk <| lSkip vUnk <| lSkip vUnk <| lSkip vUnk <|  lNil) (lCons (oBox 65 (cStr ceAcc)) <| lCons (oBox 65 (lCons cI <| lCons cI <| lSkip cNil <|  lNil)) <| lCons (oArr 31 6 ceTx) <| lCons (oArr 31 6 ceTx) <| lCons (oArr 31 6 ceTx) <|  lNil)
  (fun a b => L_k50_1.mk (a.1) (a.2.2.2.1) (a.2.2.2.2.1) (a.2.2.2.2.2.1) (b.1) (b.2.1.1) (b.2.1.2.1) (b.2.2.1) (b.2.2.2.1) (b.2.2.2.2.1)) (fun s => (s.base, s.left.length, s.gone.length, s.v23, s.v24, s.v25, ())) (fun s => (s.a_, (s.sender, s.base2, ()), s.o2, s.left, s.gone, ())) (fun a b => decide (a.2.1 = (b.2.2.2.1).length) && decide (a.2.2.1 = (b.2.2.2.2.1).length)) (by rintro ⟨a0, a1, a2, a3, a4, a5, _⟩ ⟨b0, ⟨c1_0, c1_1, _⟩, b2, b3, b4, _⟩ h; simp at h; simp [h])
theorem an_k50_1_c (C : Cfg) : an_k50_1.c C = C := rfl
set_option maxRecDepth 100000 in
theorem an_k50_1_st (s : an_k50_1.σ) : an_k50_1.st s = (toL 48 (.node (.node (.node (.node (.node (.node (.node (.node (.leaf (.unk)) (.leaf (.v (.one (.d (.sc (.int .i64 (L_k50_1.base s)))))))) (.node (.leaf (.v (.one (.ptr 0 0 0)))) (.leaf (.unk)))) (.node (.node (.leaf (.v (.one (.ptr 1 0 0)))) (.leaf (.unk))) (.node (.leaf (.unk)) (.leaf (.v (.one (.own 3 (L_k50_1.left s).length))))))) (.node (.node (.node (.leaf (.v (.one (.own 4 (L_k50_1.gone s).length)))) (.leaf (.unk))) (.leaf (.unk))) (.leaf (.unk)))) (.node (.node (.leaf (.unk)) (.node (.leaf (.unk)) (.node (.leaf (.unk)) (.leaf (.v (.one (.d (.sl ((L_k50_1.v23 s).map Tx.c))))))))) (.node (.node (.node (.leaf (.v (.one (.d (.sc (.int .i64 (L_k50_1.v24 s))))))) (.leaf (.v (.one (.d (.sc (.int .i64 (L_k50_1.v25 s)))))))) (.leaf (.unk))) (.leaf (.unk))))) (.leaf (.unk))) (.leaf (.unk))) (.leaf (.unk))), [.box 65 (ddv (Acc.c (L_k50_1.a_ s))), .box 65 [.d (.sc (.int .i64 (L_k50_1.sender s))), .d (.sc (.int .i64 (L_k50_1.base2 s))), .nil], .arr 31 6 ((L_k50_1.o2 s).map Tx.c), .arr 31 6 ((L_k50_1.left s).map Tx.c), .arr 31 6 ((L_k50_1.gone s).map Tx.c)]) := rfl
set_option maxHeartbeats 4000000 in
set_option maxRecDepth 100000 in
theorem an_k50_1_un {β : Type} (base : Int) (m1_left : Nat) (m2_gone : Nat) (p_v23 : List (List DV)) (v24 : Int) (v25 : Int) (p_a_ : List CV) (sender : Int) (base2 : Int) (p_o2 : List (List DV)) (p_left : List (List DV)) (p_gone : List (List DV)) (f_ : an_k50_1.σ → Option β) : (an_k50_1.un (.unk :: .v (.one (.d (.sc (.int .i64 base)))) :: .v (.one (.ptr 0 0 0)) :: .unk :: .v (.one (.ptr 1 0 0)) :: .unk :: .unk :: .v (.one (.own 3 m1_left)) :: .v (.one (.own 4 m2_gone)) :: U8 (.unk :: .unk :: .unk :: .unk :: .unk :: .unk :: .v (.one (.d (.sl p_v23))) :: .v (.one (.d (.sc (.int .i64 v24)))) :: .v (.one (.d (.sc (.int .i64 v25)))) :: U8 (U8 (.unk :: .unk :: .unk :: .unk :: .unk :: .unk :: [])))) [.box 65 p_a_, .box 65 [.d (.sc (.int .i64 sender)), .d (.sc (.int .i64 base2)), .nil], .arr 31 6 p_o2, .arr 31 6 p_left, .arr 31 6 p_gone]).bind f_ = (decL dTx p_v23).bind fun v23 => ((allD p_a_).bind dAcc).bind fun a_ => (decL dTx p_o2).bind fun o2 => (decL dTx p_left).bind fun left => (decL dTx p_gone).bind fun gone => (if m1_left = left.length ∧ m2_gone = gone.length then f_ (L_k50_1.mk base v23 v24 v25 a_ sender base2 o2 left gone) else none) :=
  (mkAnn_un (σ := L_k50_1) _ _ _ _ _ _ _ _ _ f_).trans (by simp (maxSteps := 10000000) [Option.bind_assoc, U8, U64, K8, K64, bind_ite])
def T_k50 : List (Nat × LoopA) := [(1, .ty an_k50_1)]
set_option maxHeartbeats 20000000 in
set_option maxRecDepth 100000 in
noncomputable def pk_k50 : { F : Acc → Int → Option (Acc × (List Tx) × Int) // CallC Tryz.prog 118 (con2 (eT ceAcc) eInt (fun x0 x1 => (F x0 x1).map (res3 (rAgg ceAcc) (rSl ceTx) rI).enc)) } :=
  ⟨_, cc2 E_k50 Tryz.func118 rfl rfl (T := T_k50) (G := []) (r := (res3 (rAgg ceAcc) (rSl ceTx) rI)) fun x0 x1 => by
    unfold Wf
    simp (maxSteps := 10000000) (implicitDefEqProofs := false) [ty_k50, c_queue_Advance, T_k50, Tryz.f118, M_k59, an_k50_1_st, an_k50_1_un, an_k50_1_c, iC, uC, bC, sC, Acc.c, Tx.c]
    try rfl⟩
noncomputable def F_k50 : Acc → Int → Option (Acc × (List Tx) × Int) := pk_k50.1
noncomputable def M_k50 : List DA → Option (List RV) := con2 (eT ceAcc) eInt (fun x0 x1 => (F_k50 x0 x1).map (res3 (rAgg ceAcc) (rSl ceTx) rI).enc)
theorem cc_k50 : CallC Tryz.prog 118 M_k50 := pk_k50.2
theorem en_k06 : Enters Tryz.prog 191 := ⟨_, Tryz.func191, rfl, rfl⟩
def ty_k06 : List (Nat × TI) := [ti9, ti3, ti5, ti165]
noncomputable def C_k06 : Cfg := mkC ty_k06 [] [] [] [] [] [] []
theorem E_k06 : Env1 Tryz.prog C_k06 := mkC_ok (by kernel_rfl) trivial (by kernel_rfl)
theorem c_codec_Text : CIs (C_k06) ty_k06 [] [] [] [] [] [] [] [] [] [] := ⟨rfl, rfl, rfl, rfl, rfl, rfl, rfl, rfl, rfl, rfl, rfl⟩
set_option maxHeartbeats 20000000 in
set_option maxRecDepth 100000 in
noncomputable def pk_k06 : { F : ByteArray → Option (ByteArray) // CallC Tryz.prog 191 (con1 eStr (fun x0 => (F x0).map (res1 rS).enc)) } :=
  ⟨_, cc1 E_k06 Tryz.func191 rfl rfl (T := []) (G := []) (r := (res1 rS)) fun x0 => by
    unfold Wf
    simp (maxSteps := 10000000) (implicitDefEqProofs := false) [ty_k06, c_codec_Text, Tryz.f191, iC, uC, bC, sC]
    try rfl⟩
noncomputable def F_k06 : ByteArray → Option (ByteArray) := pk_k06.1
noncomputable def M_k06 : List DA → Option (List RV) := con1 eStr (fun x0 => (F_k06 x0).map (res1 rS).enc)
theorem cc_k06 : CallC Tryz.prog 191 M_k06 := pk_k06.2
theorem en_k08 : Enters Tryz.prog 149 := ⟨_, Tryz.func149, rfl, rfl⟩
def ty_k08 : List (Nat × TI) := [ti165, ti3, ti5]
noncomputable def C_k08 : Cfg := mkC ty_k08 [] [] [] [] [3,6,7,8] [] []
theorem E_k08 : Env1 Tryz.prog C_k08 := mkC_ok (by kernel_rfl) trivial (by kernel_rfl)
theorem c_codec_value : CIs (C_k08) ty_k08 [] [] [] [] [] [3,6,7,8] [] [] [] [] := ⟨rfl, rfl, rfl, rfl, rfl, rfl, rfl, rfl, rfl, rfl, rfl⟩
structure L_k08_0 where
  n : Int
  v6 : List Int
  v7 : Int
  v8 : Int
def an_k08_0 : Ann := mkAnn (σ := L_k08_0) (lSkip vUnk <| lSkip vUnk <| lSkip vUnk <| lCons (vOne cI) <| lSkip vUnk <| lSkip vUnk <| lCons (vOne (cSl ceU)) <| lCons (vOne cI) <| lCons (vOne cI) <| K8 <| lSkip vUnk <| lSkip vUnk <|  lNil) ( lNil)
  (fun a b => L_k08_0.mk (a.1) (a.2.1) (a.2.2.1) (a.2.2.2.1)) (fun s => (s.n, s.v6, s.v7, s.v8, ())) (fun s => (())) (fun a b => true) (fun _ _ _ => ⟨rfl, rfl⟩)
theorem an_k08_0_c (C : Cfg) : an_k08_0.c C = C := rfl
set_option maxRecDepth 100000 in
theorem an_k08_0_st (s : an_k08_0.σ) : an_k08_0.st s = (toL 19 (.node (.node (.node (.node (.node (.node (.node (.leaf (.unk)) (.node (.leaf (.unk)) (.leaf (.v (.one (.d (.sc (.int .i64 (L_k08_0.n s))))))))) (.node (.leaf (.unk)) (.node (.leaf (.v (.one (.d (.sl ((L_k08_0.v6 s).map uC)))))) (.leaf (.v (.one (.d (.sc (.int .i64 (L_k08_0.v7 s)))))))))) (.node (.node (.node (.leaf (.v (.one (.d (.sc (.int .i64 (L_k08_0.v8 s))))))) (.leaf (.unk))) (.leaf (.unk))) (.leaf (.unk)))) (.leaf (.unk))) (.leaf (.unk))) (.leaf (.unk))) (.leaf (.unk))), []) := rfl
set_option maxHeartbeats 4000000 in
set_option maxRecDepth 100000 in
theorem an_k08_0_un {β : Type} (n : Int) (p_v6 : List (List DV)) (v7 : Int) (v8 : Int) (f_ : an_k08_0.σ → Option β) : (an_k08_0.un (.unk :: .unk :: .unk :: .v (.one (.d (.sc (.int .i64 n)))) :: .unk :: .unk :: .v (.one (.d (.sl p_v6))) :: .v (.one (.d (.sc (.int .i64 v7)))) :: .v (.one (.d (.sc (.int .i64 v8)))) :: U8 (.unk :: .unk :: [])) []).bind f_ = (decL uD p_v6).bind fun v6 => f_ (L_k08_0.mk n v6 v7 v8) :=
  (mkAnn_un (σ := L_k08_0) _ _ _ _ _ _ _ _ _ f_).trans (by simp (maxSteps := 10000000) [Option.bind_assoc, U8, U64, K8, K64])
def T_k08 : List (Nat × LoopA) := [(0, .ty an_k08_0)]
set_option maxHeartbeats 20000000 in
set_option maxRecDepth 100000 in
noncomputable def pk_k08 : { F : (List Int) → Option (Int) // CallC Tryz.prog 149 (con1 (eL ceU) (fun x0 => (F x0).map (res1 rI).enc)) } :=
  ⟨_, cc1 E_k08 Tryz.func149 rfl rfl (T := T_k08) (G := []) (r := (res1 rI)) fun x0 => by
    unfold Wf
    simp (maxSteps := 10000000) (implicitDefEqProofs := false) [ty_k08, c_codec_value, T_k08, Tryz.f149, an_k08_0_st, an_k08_0_un, an_k08_0_c, iC, uC, bC, sC]
    try rfl⟩
noncomputable def F_k08 : (List Int) → Option (Int) := pk_k08.1
noncomputable def M_k08 : List DA → Option (List RV) := con1 (eL ceU) (fun x0 => (F_k08 x0).map (res1 rI).enc)
theorem cc_k08 : CallC Tryz.prog 149 M_k08 := pk_k08.2
theorem en_k07 : Enters Tryz.prog 148 := ⟨_, Tryz.func148, rfl, rfl⟩
def ty_k07 : List (Nat × TI) := [ti165, ti9, ti3, ti5]
noncomputable def C_k07 : Cfg := mkC ty_k07 [] [] [] [(4, [(0, 5, 1)])] [] [] [(4, [true, true, true, true, true, true, true, true, true, true])]
theorem E_k07 : Env1 Tryz.prog C_k07 := mkC_ok (by kernel_rfl) trivial (by kernel_rfl)
theorem c_codec_cut : CIs (C_k07) ty_k07 [] [] [] [] [(4, [(0, 5, 1)])] [] [] [(4, [true, true, true, true, true, true, true, true, true, true])] [] [] := ⟨rfl, rfl, rfl, rfl, rfl, rfl, rfl, rfl, rfl, rfl, rfl⟩
set_option maxHeartbeats 20000000 in
set_option maxRecDepth 100000 in
noncomputable def pk_k07 : { F : ByteArray → Int → Option ((List Int) × ByteArray × Bool) // CallC Tryz.prog 148 (con2 eStr eInt (fun x0 x1 => (F x0 x1).map (res3 (rSl ceU) rS rB).enc)) } :=
  ⟨_, cc2 E_k07 Tryz.func148 rfl rfl (T := []) (G := []) (r := (res3 (rSl ceU) rS rB)) fun x0 x1 => by
    unfold Wf
    simp (maxSteps := 10000000) (implicitDefEqProofs := false) [ty_k07, c_codec_cut, Tryz.f148, iC, uC, bC, sC]
    try rfl⟩
noncomputable def F_k07 : ByteArray → Int → Option ((List Int) × ByteArray × Bool) := pk_k07.1
noncomputable def M_k07 : List DA → Option (List RV) := con2 eStr eInt (fun x0 x1 => (F_k07 x0 x1).map (res3 (rSl ceU) rS rB).enc)
theorem cc_k07 : CallC Tryz.prog 148 M_k07 := pk_k07.2
theorem en_k3c : Enters Tryz.prog 42 := ⟨_, Tryz.func42, rfl, rfl⟩
def ty_k3c : List (Nat × TI) := [ti82, ti34, ti4, ti3]
noncomputable def C_k3c : Cfg := mkC ty_k3c [] [] [] [] [] [] []
theorem E_k3c : Env1 Tryz.prog C_k3c := mkC_ok (by kernel_rfl) trivial (by kernel_rfl)
theorem c_look_Full : CIs (C_k3c) ty_k3c [] [] [] [] [] [] [] [] [] [] := ⟨rfl, rfl, rfl, rfl, rfl, rfl, rfl, rfl, rfl, rfl, rfl⟩
set_option maxHeartbeats 20000000 in
set_option maxRecDepth 100000 in
noncomputable def pk_k3c : { F : Plan → Option (Result) // CallC Tryz.prog 42 (con1 (eT cePlan) (fun x0 => (F x0).map (res1 (rAgg ceResult)).enc)) } :=
  ⟨_, cc1 E_k3c Tryz.func42 rfl rfl (T := []) (G := []) (r := (res1 (rAgg ceResult))) fun x0 => by
    unfold Wf
    simp (maxSteps := 10000000) (implicitDefEqProofs := false) [ty_k3c, c_look_Full, Tryz.f42, iC, uC, bC, sC, Acc.c, Event.c, Plan.c, Result.c, Tx.c]
    try rfl⟩
noncomputable def F_k3c : Plan → Option (Result) := pk_k3c.1
noncomputable def M_k3c : List DA → Option (List RV) := con1 (eT cePlan) (fun x0 => (F_k3c x0).map (res1 (rAgg ceResult)).enc)
theorem cc_k3c : CallC Tryz.prog 42 M_k3c := pk_k3c.2
theorem en_k43 : Enters Tryz.prog 78 := ⟨_, Tryz.func78, rfl, rfl⟩
def ty_k43 : List (Nat × TI) := [ti82, ti34]
noncomputable def C_k43 : Cfg := mkC ty_k43 [] [] [] [] [] [] []
theorem E_k43 : Env1 Tryz.prog C_k43 := mkC_ok (by kernel_rfl) trivial (by kernel_rfl)
theorem c_look_refuse : CIs (C_k43) ty_k43 [] [] [] [] [] [] [] [] [] [] := ⟨rfl, rfl, rfl, rfl, rfl, rfl, rfl, rfl, rfl, rfl, rfl⟩
set_option maxHeartbeats 20000000 in
set_option maxRecDepth 100000 in
noncomputable def pk_k43 : { F : Int → Option (Plan) // CallC Tryz.prog 78 (con1 eInt (fun x0 => (F x0).map (res1 (rAgg cePlan)).enc)) } :=
  ⟨_, cc1 E_k43 Tryz.func78 rfl rfl (T := []) (G := []) (r := (res1 (rAgg cePlan))) fun x0 => by
    unfold Wf
    simp (maxSteps := 10000000) (implicitDefEqProofs := false) [ty_k43, c_look_refuse, Tryz.f78, iC, uC, bC, sC, Acc.c, Event.c, Plan.c, Result.c, Tx.c]
    try rfl⟩
noncomputable def F_k43 : Int → Option (Plan) := pk_k43.1
noncomputable def M_k43 : List DA → Option (List RV) := con1 eInt (fun x0 => (F_k43 x0).map (res1 (rAgg cePlan)).enc)
theorem cc_k43 : CallC Tryz.prog 78 M_k43 := pk_k43.2

end Go.Vm

/- What Go functions come to, as Lean functions: each with its contract. -/
set_option linter.unusedVariables false
set_option linter.unusedSimpArgs false
namespace Go.Vm
open Go Go.RowKit Go.Proofs
attribute [-simp] env0 envI evOps evOne evOp evIndexAddr evIndex evPick binV evLoad evStore loadC callV nilC storeC toDVs toDAs resRs
attribute [local simp] List.lookup List.replicate List.range_succ env0_tree envI_tree

theorem en_kb3 : Enters Tryz.prog 145 := ⟨_, Tryz.func145, rfl, rfl⟩
def ty_kb3 : List (Nat × TI) := [ti32, ti31]
noncomputable def C_kb3 : Cfg := mkC ty_kb3 [] [] [] [(2, [(0, 31, 6)])] [] [0] []
theorem E_kb3 : Env1 Tryz.prog C_kb3 := mkC_ok (by kernel_rfl) trivial (by kernel_rfl)
theorem c_slices_Clone_Tx : CIs (C_kb3) ty_kb3 [] [] [] [] [(2, [(0, 31, 6)])] [] [0] [] [] [] := ⟨rfl, rfl, rfl, rfl, rfl, rfl, rfl, rfl, rfl, rfl, rfl⟩
set_option maxHeartbeats 20000000 in
set_option maxRecDepth 100000 in
noncomputable def pk_kb3 : { F : (List Tx) → Option ((List Tx)) // CallC Tryz.prog 145 (con1 (eL ceTx) (fun x0 => (F x0).map (res1 (rOwn 31 6 ceTx)).enc)) } :=
  ⟨_, cc1 E_kb3 Tryz.func145 rfl rfl (T := []) (G := []) (r := (res1 (rOwn 31 6 ceTx))) fun x0 => by
    unfold Wf
    simp (maxSteps := 10000000) (implicitDefEqProofs := false) [ty_kb3, c_slices_Clone_Tx, Tryz.f145, iC, uC, bC, sC, Tx.c]
    try rfl⟩
noncomputable def F_kb3 : (List Tx) → Option ((List Tx)) := pk_kb3.1
noncomputable def M_kb3 : List DA → Option (List RV) := con1 (eL ceTx) (fun x0 => (F_kb3 x0).map (res1 (rOwn 31 6 ceTx)).enc)
theorem cc_kb3 : CallC Tryz.prog 145 M_kb3 := pk_kb3.2
theorem en_k53 : Enters Tryz.prog 146 := ⟨_, Tryz.func146, rfl, rfl⟩
def ty_k53 : List (Nat × TI) := [ti31, ti3]
noncomputable def C_k53 : Cfg := mkC ty_k53 [] [] [] [] [3] [] []
theorem E_k53 : Env1 Tryz.prog C_k53 := mkC_ok (by kernel_rfl) trivial (by kernel_rfl)
theorem c_queue_Drop1 : CIs (C_k53) ty_k53 [] [] [] [] [] [3] [] [] [] [] := ⟨rfl, rfl, rfl, rfl, rfl, rfl, rfl, rfl, rfl, rfl, rfl⟩
noncomputable def I_k53 : List V1 → Objs → Option (TV × Objs) := Wi C_k53 [] [] Tryz.f146
theorem ic_k53 : InlC Tryz.prog 146 I_k53 := inlC_of_W E_k53 Tryz.func146 rfl rfl
theorem en_kb8 : Enters Tryz.prog 176 := ⟨_, Tryz.func176, rfl, rfl⟩
def ty_kb8 : List (Nat × TI) := [ti32, ti3, ti31]
noncomputable def C0_kb8 : Cfg := mkC ty_kb8 [] [] [] [] [0,1,4,7,8] [] []
noncomputable def C_kb8 : Cfg := mkI C0_kb8 [(146, I_k53)]
theorem E0_kb8 : Env1 Tryz.prog C0_kb8 := mkC_ok (by kernel_rfl) trivial (by kernel_rfl)
theorem E_kb8 : Env1 Tryz.prog C_kb8 := mkI_ok E0_kb8 (⟨⟨en_k53, ic_k53⟩, trivial⟩)
theorem c_slices_IndexFunc_Tx : CIs (C_kb8) ty_kb8 [] [] [] [] [] [0,1,4,7,8] [] [] [] [146] := ⟨rfl, rfl, rfl, rfl, rfl, rfl, rfl, rfl, rfl, rfl, rfl⟩
theorem ci_slices_IndexFunc_Tx : CIl C_kb8 [(146, I_k53)] := rfl
structure L_kb8_0 where
  v4 : Int
  v7 : Int
  v8 : Int
  o0 : Acc
  o1 : Int
  sender : Int
  base : Int
  s_ : List Tx
  o4 : List Tx
def an_kb8_0 : Ann := mkAnn (σ := L_kb8_0) (lCons (vOne (cOwn 3)) <| lSkip (vOne (cClo 146 [] [(1, 0)])) <| lSkip vUnk <| lSkip vUnk <| lCons (vOne cI) <| lSkip vUnk <| lSkip vUnk <| lCons (vOne cI) <| lCons (vOne cI) <| K8 <| lSkip vUnk <| lSkip vUnk <|  lNil) (lCons (oBox 65 (cStr ceAcc)) <| lCons (oBox 3 (lCons cI <|  lNil)) <| lCons (oBox 65 (lCons cI <| lCons cI <| lSkip cNil <|  lNil)) <| lCons (oArr 31 6 ceTx) <| lCons (oArr 31 6 ceTx) <|  lNil)
  (fun a b => L_kb8_0.mk (a.2.1) (a.2.2.1) (a.2.2.2.1) (b.1) (b.2.1.1) (b.2.2.1.1) (b.2.2.1.2.1) (b.2.2.2.1) (b.2.2.2.2.1)) (fun s => (s.s_.length, s.v4, s.v7, s.v8, ())) (fun s => (s.o0, (s.o1, ()), (s.sender, s.base, ()), s.s_, s.o4, ())) (fun a b => decide (a.1 = (b.2.2.2.1).length)) (by rintro ⟨a0, a1, a2, a3, _⟩ ⟨b0, ⟨c1_0, _⟩, ⟨c2_0, c2_1, _⟩, b3, b4, _⟩ h; simp at h; simp [h])
theorem an_kb8_0_c (C : Cfg) : an_kb8_0.c C = C := rfl
set_option maxRecDepth 100000 in
theorem an_kb8_0_st (s : an_kb8_0.σ) : an_kb8_0.st s = (toL 19 (.node (.node (.node (.node (.node (.node (.node (.node (.leaf (.v (.one (.own 3 (L_kb8_0.s_ s).length)))) (.leaf (.v (.one (.clo 146 [] [(1, 0)]))))) (.leaf (.unk))) (.node (.node (.leaf (.v (.one (.d (.sc (.int .i64 (L_kb8_0.v4 s))))))) (.leaf (.unk))) (.node (.leaf (.unk)) (.leaf (.v (.one (.d (.sc (.int .i64 (L_kb8_0.v7 s)))))))))) (.node (.node (.node (.leaf (.v (.one (.d (.sc (.int .i64 (L_kb8_0.v8 s))))))) (.leaf (.unk))) (.leaf (.unk))) (.leaf (.unk)))) (.leaf (.unk))) (.leaf (.unk))) (.leaf (.unk))) (.leaf (.unk))), [.box 65 (ddv (Acc.c (L_kb8_0.o0 s))), .box 3 [.d (.sc (.int .i64 (L_kb8_0.o1 s)))], .box 65 [.d (.sc (.int .i64 (L_kb8_0.sender s))), .d (.sc (.int .i64 (L_kb8_0.base s))), .nil], .arr 31 6 ((L_kb8_0.s_ s).map Tx.c), .arr 31 6 ((L_kb8_0.o4 s).map Tx.c)]) := rfl
set_option maxHeartbeats 4000000 in
set_option maxRecDepth 100000 in
theorem an_kb8_0_un {β : Type} (m1_s_ : Nat) (v4 : Int) (v7 : Int) (v8 : Int) (p_o0 : List CV) (o1 : Int) (sender : Int) (base : Int) (p_s_ : List (List DV)) (p_o4 : List (List DV)) (f_ : an_kb8_0.σ → Option β) : (an_kb8_0.un (.v (.one (.own 3 m1_s_)) :: .v (.one (.clo 146 [] [(1, 0)])) :: .unk :: .unk :: .v (.one (.d (.sc (.int .i64 v4)))) :: .unk :: .unk :: .v (.one (.d (.sc (.int .i64 v7)))) :: .v (.one (.d (.sc (.int .i64 v8)))) :: U8 (.unk :: .unk :: [])) [.box 65 p_o0, .box 3 [.d (.sc (.int .i64 o1))], .box 65 [.d (.sc (.int .i64 sender)), .d (.sc (.int .i64 base)), .nil], .arr 31 6 p_s_, .arr 31 6 p_o4]).bind f_ = ((allD p_o0).bind dAcc).bind fun o0 => (decL dTx p_s_).bind fun s_ => (decL dTx p_o4).bind fun o4 => (if m1_s_ = s_.length then f_ (L_kb8_0.mk v4 v7 v8 o0 o1 sender base s_ o4) else none) :=
  (mkAnn_un (σ := L_kb8_0) _ _ _ _ _ _ _ _ _ f_).trans (by simp (maxSteps := 10000000) [Option.bind_assoc, U8, U64, K8, K64, bind_ite])
def T_kb8 : List (Nat × LoopA) := [(0, .tr an_kb8_0)]
noncomputable def I_kb8 : List V1 → Objs → Option (TV × Objs) := Wi C_kb8 T_kb8 [] Tryz.f176
theorem ic_kb8 : InlC Tryz.prog 176 I_kb8 := inlC_of_W E_kb8 Tryz.func176 rfl rfl
theorem en_kb5 : Enters Tryz.prog 144 := ⟨_, Tryz.func144, rfl, rfl⟩
def ty_kb5 : List (Nat × TI) := [ti32, ti74, ti3, ti31]
noncomputable def C0_kb5 : Cfg := mkC ty_kb5 [] [] [176] [(4, [(0, 31, 6)])] [0,1,4,5,6] [] []
noncomputable def C_kb5 : Cfg := mkI C0_kb5 [(176, I_kb8), (146, I_k53)]
theorem E0_kb5 : Env1 Tryz.prog C0_kb5 := mkC_ok (by kernel_rfl) trivial (by kernel_rfl)
theorem E_kb5 : Env1 Tryz.prog C_kb5 := mkI_ok E0_kb5 (⟨⟨en_kb8, ic_kb8⟩, ⟨⟨en_k53, ic_k53⟩, trivial⟩⟩)
theorem c_slices_DeleteFunc_Tx : CIs (C_kb5) ty_kb5 [] [] [] [176] [(4, [(0, 31, 6)])] [0,1,4,5,6] [] [] [] [176, 146] := ⟨rfl, rfl, rfl, rfl, rfl, rfl, rfl, rfl, rfl, rfl, rfl⟩
theorem ci_slices_DeleteFunc_Tx : CIl C_kb5 [(176, I_kb8), (146, I_k53)] := rfl
structure L_kb5_0 where
  i : Int
  j : Int
  o0 : Acc
  o1 : Int
  sender : Int
  base : Int
  s_ : List Tx
  v4 : List Tx
def an_kb5_0 : Ann := mkAnn (σ := L_kb5_0) (lCons (vOne (cOwn 3)) <| lSkip (vOne (cClo 146 [] [(1, 0)])) <| lSkip vUnk <| lSkip vUnk <| lCons (vOne (cOwn 4)) <| lCons (vOne cI) <| lCons (vOne cI) <| K8 <| K8 <| K8 <| K8 <| lSkip vUnk <| lSkip vUnk <| lSkip vUnk <|  lNil) (lCons (oBox 65 (cStr ceAcc)) <| lCons (oBox 3 (lCons cI <|  lNil)) <| lCons (oBox 65 (lCons cI <| lCons cI <| lSkip cNil <|  lNil)) <| lCons (oArr 31 6 ceTx) <| lCons (oArr 31 6 ceTx) <|  lNil)
  (fun a b => L_kb5_0.mk (a.2.2.1) (a.2.2.2.1) (b.1) (b.2.1.1) (b.2.2.1.1) (b.2.2.1.2.1) (b.2.2.2.1) (b.2.2.2.2.1)) (fun s => (s.s_.length, s.v4.length, s.i, s.j, ())) (fun s => (s.o0, (s.o1, ()), (s.sender, s.base, ()), s.s_, s.v4, ())) (fun a b => decide (a.1 = (b.2.2.2.1).length) && decide (a.2.1 = (b.2.2.2.2.1).length)) (by rintro ⟨a0, a1, a2, a3, _⟩ ⟨b0, ⟨c1_0, _⟩, ⟨c2_0, c2_1, _⟩, b3, b4, _⟩ h; simp at h; simp [h])
theorem an_kb5_0_c (C : Cfg) : an_kb5_0.c C = C := rfl
set_option maxRecDepth 100000 in
theorem an_kb5_0_st (s : an_kb5_0.σ) : an_kb5_0.st s = (toL 42 (.node (.node (.node (.node (.node (.node (.node (.node (.leaf (.v (.one (.own 3 (L_kb5_0.s_ s).length)))) (.leaf (.v (.one (.clo 146 [] [(1, 0)]))))) (.leaf (.unk))) (.node (.node (.leaf (.v (.one (.own 4 (L_kb5_0.v4 s).length)))) (.leaf (.v (.one (.d (.sc (.int .i64 (L_kb5_0.i s)))))))) (.node (.leaf (.v (.one (.d (.sc (.int .i64 (L_kb5_0.j s))))))) (.leaf (.unk))))) (.leaf (.unk))) (.leaf (.unk))) (.leaf (.unk))) (.leaf (.unk))) (.leaf (.unk))), [.box 65 (ddv (Acc.c (L_kb5_0.o0 s))), .box 3 [.d (.sc (.int .i64 (L_kb5_0.o1 s)))], .box 65 [.d (.sc (.int .i64 (L_kb5_0.sender s))), .d (.sc (.int .i64 (L_kb5_0.base s))), .nil], .arr 31 6 ((L_kb5_0.s_ s).map Tx.c), .arr 31 6 ((L_kb5_0.v4 s).map Tx.c)]) := rfl
set_option maxHeartbeats 4000000 in
set_option maxRecDepth 100000 in
theorem an_kb5_0_un {β : Type} (m1_s_ : Nat) (m2_v4 : Nat) (i : Int) (j : Int) (p_o0 : List CV) (o1 : Int) (sender : Int) (base : Int) (p_s_ : List (List DV)) (p_v4 : List (List DV)) (f_ : an_kb5_0.σ → Option β) : (an_kb5_0.un (.v (.one (.own 3 m1_s_)) :: .v (.one (.clo 146 [] [(1, 0)])) :: .unk :: .unk :: .v (.one (.own 4 m2_v4)) :: .v (.one (.d (.sc (.int .i64 i)))) :: .v (.one (.d (.sc (.int .i64 j)))) :: U8 (U8 (U8 (U8 (.unk :: .unk :: .unk :: []))))) [.box 65 p_o0, .box 3 [.d (.sc (.int .i64 o1))], .box 65 [.d (.sc (.int .i64 sender)), .d (.sc (.int .i64 base)), .nil], .arr 31 6 p_s_, .arr 31 6 p_v4]).bind f_ = ((allD p_o0).bind dAcc).bind fun o0 => (decL dTx p_s_).bind fun s_ => (decL dTx p_v4).bind fun v4 => (if m1_s_ = s_.length ∧ m2_v4 = v4.length then f_ (L_kb5_0.mk i j o0 o1 sender base s_ v4) else none) :=
  (mkAnn_un (σ := L_kb5_0) _ _ _ _ _ _ _ _ _ f_).trans (by simp (maxSteps := 10000000) [Option.bind_assoc, U8, U64, K8, K64, bind_ite])
def T_kb5 : List (Nat × LoopA) := [(0, .tr an_kb5_0)]
noncomputable def I_kb5 : List V1 → Objs → Option (TV × Objs) := Wi C_kb5 T_kb5 [] Tryz.f144
theorem ic_kb5 : InlC Tryz.prog 144 I_kb5 := inlC_of_W E_kb5 Tryz.func144 rfl rfl
theorem en_k52 : Enters Tryz.prog 110 := ⟨_, Tryz.func110, rfl, rfl⟩
def ty_k52 : List (Nat × TI) := [ti65, ti3, ti32, ti74, ti31]
noncomputable def C0_k52 : Cfg := mkC ty_k52 [] [(145, M_kb3)] [] [] [] [] []
noncomputable def C_k52 : Cfg := mkI C0_k52 [(144, I_kb5)]
theorem E0_k52 : Env1 Tryz.prog C0_k52 := mkC_ok (by kernel_rfl) (⟨⟨en_kb3, cc_kb3⟩, trivial⟩) (by kernel_rfl)
theorem E_k52 : Env1 Tryz.prog C_k52 := mkI_ok E0_k52 (⟨⟨en_kb5, ic_kb5⟩, trivial⟩)
theorem c_queue_Drop : CIs (C_k52) ty_k52 [] [(145, M_kb3)] [145] [] [] [] [] [] [] [144] := ⟨rfl, rfl, rfl, rfl, rfl, rfl, rfl, rfl, rfl, rfl, rfl⟩
theorem ci_queue_Drop : CIl C_k52 [(144, I_kb5)] := rfl
set_option maxHeartbeats 20000000 in
set_option maxRecDepth 100000 in
noncomputable def pk_k52 : { F : Acc → Int → Option (Acc) // CallC Tryz.prog 110 (con2 (eT ceAcc) eInt (fun x0 x1 => (F x0 x1).map (res1 (rAgg ceAcc)).enc)) } :=
  ⟨_, cc2 E_k52 Tryz.func110 rfl rfl (T := []) (G := []) (r := (res1 (rAgg ceAcc))) fun x0 x1 => by
    unfold Wf
    simp (maxSteps := 10000000) (implicitDefEqProofs := false) [ty_k52, c_queue_Drop, ci_queue_Drop, Tryz.f110, M_kb3, iC, uC, bC, sC, Acc.c, Tx.c, ty_kb5, c_slices_DeleteFunc_Tx, ci_slices_DeleteFunc_Tx, T_kb5, Tryz.f144, an_kb5_0_st, an_kb5_0_un, an_kb5_0_c, ty_kb8, c_slices_IndexFunc_Tx, ci_slices_IndexFunc_Tx, T_kb8, Tryz.f176, an_kb8_0_st, an_kb8_0_un, an_kb8_0_c, ty_k53, c_queue_Drop1, Tryz.f146, I_k53, Wi, mkI, I_kb8, I_kb5, mkI]
    try rfl⟩
noncomputable def F_k52 : Acc → Int → Option (Acc) := pk_k52.1
noncomputable def M_k52 : List DA → Option (List RV) := con2 (eT ceAcc) eInt (fun x0 x1 => (F_k52 x0 x1).map (res1 (rAgg ceAcc)).enc)
theorem cc_k52 : CallC Tryz.prog 110 M_k52 := pk_k52.2

end Go.Vm

/- What Go functions come to, as Lean functions: each with its contract. -/
set_option linter.unusedVariables false
set_option linter.unusedSimpArgs false
namespace Go.Vm
open Go Go.RowKit Go.Proofs
attribute [-simp] env0 envI evOps evOne evOp evIndexAddr evIndex evPick binV evLoad evStore loadC callV nilC storeC toDVs toDAs resRs
attribute [local simp] List.lookup List.replicate List.range_succ env0_tree envI_tree

theorem en_k8c : Enters Tryz.prog 18 := ⟨_, Tryz.func18, rfl, rfl⟩
def ty_k8c : List (Nat × TI) := [ti35, ti3, ti68]
noncomputable def C_k8c : Cfg := mkC ty_k8c [(68, [.i .i64, .i .i64, .i .i64, .i .i64, .i .i64, .i .i64, .s, .i .i64])] [] [] [] [0,1,5] [] [(6, [true, true, true, true, true, true, true, true, true])]
theorem E_k8c : Env1 Tryz.prog C_k8c := mkC_ok (by kernel_rfl) trivial (by kernel_rfl)
theorem c_r13_Events : CIs (C_k8c) ty_k8c [(68, [.i .i64, .i .i64, .i .i64, .i .i64, .i .i64, .i .i64, .s, .i .i64])] [] [] [] [] [0,1,5] [] [(6, [true, true, true, true, true, true, true, true, true])] [] [] := ⟨rfl, rfl, rfl, rfl, rfl, rfl, rfl, rfl, rfl, rfl, rfl⟩
structure L_k8c_0 where
  a_ : List Event
  b_ : List Event
  i : Int
def an_k8c_0 : Ann := mkAnn (σ := L_k8c_0) (lCons (vOne (cSl ceEvent)) <| lCons (vOne (cSl ceEvent)) <| lSkip vUnk <| lSkip vUnk <| lSkip vUnk <| lCons (vOne cI) <| K8 <| K8 <| lSkip vUnk <| lSkip vUnk <| lSkip vUnk <| lSkip vUnk <|  lNil) ( lNil)
  (fun a b => L_k8c_0.mk (a.1) (a.2.1) (a.2.2.1)) (fun s => (s.a_, s.b_, s.i, ())) (fun s => (())) (fun a b => true) (fun _ _ _ => ⟨rfl, rfl⟩)
theorem an_k8c_0_c (C : Cfg) : an_k8c_0.c C = C := rfl
set_option maxRecDepth 100000 in
theorem an_k8c_0_st (s : an_k8c_0.σ) : an_k8c_0.st s = (toL 26 (.node (.node (.node (.node (.node (.node (.node (.node (.leaf (.v (.one (.d (.sl ((L_k8c_0.a_ s).map Event.c)))))) (.leaf (.v (.one (.d (.sl ((L_k8c_0.b_ s).map Event.c))))))) (.leaf (.unk))) (.node (.node (.leaf (.unk)) (.leaf (.v (.one (.d (.sc (.int .i64 (L_k8c_0.i s)))))))) (.leaf (.unk)))) (.leaf (.unk))) (.leaf (.unk))) (.leaf (.unk))) (.leaf (.unk))) (.leaf (.unk))), []) := rfl
set_option maxHeartbeats 4000000 in
set_option maxRecDepth 100000 in
theorem an_k8c_0_un {β : Type} (p_a_ : List (List DV)) (p_b_ : List (List DV)) (i : Int) (f_ : an_k8c_0.σ → Option β) : (an_k8c_0.un (.v (.one (.d (.sl p_a_))) :: .v (.one (.d (.sl p_b_))) :: .unk :: .unk :: .unk :: .v (.one (.d (.sc (.int .i64 i)))) :: U8 (U8 (.unk :: .unk :: .unk :: .unk :: []))) []).bind f_ = (decL dEvent p_a_).bind fun a_ => (decL dEvent p_b_).bind fun b_ => f_ (L_k8c_0.mk a_ b_ i) :=
  (mkAnn_un (σ := L_k8c_0) _ _ _ _ _ _ _ _ _ f_).trans (by simp (maxSteps := 10000000) [Option.bind_assoc, U8, U64, K8, K64])
def T_k8c : List (Nat × LoopA) := [(0, .ty an_k8c_0)]
set_option maxHeartbeats 20000000 in
set_option maxRecDepth 100000 in
noncomputable def pk_k8c : { F : (List Event) → (List Event) → Option (Bool) // CallC Tryz.prog 18 (con2 (eL ceEvent) (eL ceEvent) (fun x0 x1 => (F x0 x1).map (res1 rB).enc)) } :=
  ⟨_, cc2 E_k8c Tryz.func18 rfl rfl (T := T_k8c) (G := []) (r := (res1 rB)) fun x0 x1 => by
    unfold Wf
    simp (maxSteps := 10000000) (implicitDefEqProofs := false) [ty_k8c, c_r13_Events, T_k8c, Tryz.f18, an_k8c_0_st, an_k8c_0_un, an_k8c_0_c, iC, uC, bC, sC, Event.c, Tx.c]
    try rfl⟩
noncomputable def F_k8c : (List Event) → (List Event) → Option (Bool) := pk_k8c.1
noncomputable def M_k8c : List DA → Option (List RV) := con2 (eL ceEvent) (eL ceEvent) (fun x0 x1 => (F_k8c x0 x1).map (res1 rB).enc)
theorem cc_k8c : CallC Tryz.prog 18 M_k8c := pk_k8c.2
theorem en_k05 : Enters Tryz.prog 115 := ⟨_, Tryz.func115, rfl, rfl⟩
def ty_k05 : List (Nat × TI) := [ti9, ti3, ti165, ti5]
noncomputable def C_k05 : Cfg := mkC ty_k05 [] [(148, M_k07), (149, M_k08)] [149] [] [] [] []
theorem E_k05 : Env1 Tryz.prog C_k05 := mkC_ok (by kernel_rfl) (⟨⟨en_k07, cc_k07⟩, ⟨⟨en_k08, cc_k08⟩, trivial⟩⟩) (by kernel_rfl)
theorem c_codec_TakeText : CIs (C_k05) ty_k05 [] [(148, M_k07), (149, M_k08)] [148, 149] [149] [] [] [] [] [] [] := ⟨rfl, rfl, rfl, rfl, rfl, rfl, rfl, rfl, rfl, rfl, rfl⟩
set_option maxHeartbeats 20000000 in
set_option maxRecDepth 100000 in
noncomputable def pk_k05 : { F : ByteArray → Int → Option (ByteArray × ByteArray × Bool) // CallC Tryz.prog 115 (con2 eStr eInt (fun x0 x1 => (F x0 x1).map (res3 rS rS rB).enc)) } :=
  ⟨_, cc2 E_k05 Tryz.func115 rfl rfl (T := []) (G := []) (r := (res3 rS rS rB)) fun x0 x1 => by
    unfold Wf
    simp (maxSteps := 10000000) (implicitDefEqProofs := false) [ty_k05, c_codec_TakeText, Tryz.f115, M_k07, M_k08, iC, uC, bC, sC]
    try rfl⟩
noncomputable def F_k05 : ByteArray → Int → Option (ByteArray × ByteArray × Bool) := pk_k05.1
noncomputable def M_k05 : List DA → Option (List RV) := con2 eStr eInt (fun x0 x1 => (F_k05 x0 x1).map (res3 rS rS rB).enc)
theorem cc_k05 : CallC Tryz.prog 115 M_k05 := pk_k05.2
theorem en_kbd : Enters Tryz.prog 177 := ⟨_, Tryz.func177, rfl, rfl⟩
def ty_kbd : List (Nat × TI) := [ti9, ti3]
noncomputable def C_kbd : Cfg := mkC ty_kbd [] [] [] [] [] [] []
theorem E_kbd : Env1 Tryz.prog C_kbd := mkC_ok (by kernel_rfl) trivial (by kernel_rfl)
theorem c_stl_HasPrefix : CIs (C_kbd) ty_kbd [] [] [] [] [] [] [] [] [] [] := ⟨rfl, rfl, rfl, rfl, rfl, rfl, rfl, rfl, rfl, rfl, rfl⟩
set_option maxHeartbeats 20000000 in
set_option maxRecDepth 100000 in
noncomputable def pk_kbd : { F : ByteArray → ByteArray → Option (Bool) // CallC Tryz.prog 177 (con2 eStr eStr (fun x0 x1 => (F x0 x1).map (res1 rB).enc)) } :=
  ⟨_, cc2 E_kbd Tryz.func177 rfl rfl (T := []) (G := []) (r := (res1 rB)) fun x0 x1 => by
    unfold Wf
    simp (maxSteps := 10000000) (implicitDefEqProofs := false) [ty_kbd, c_stl_HasPrefix, Tryz.f177, iC, uC, bC, sC]
    try rfl⟩
noncomputable def F_kbd : ByteArray → ByteArray → Option (Bool) := pk_kbd.1
noncomputable def M_kbd : List DA → Option (List RV) := con2 eStr eStr (fun x0 x1 => (F_kbd x0 x1).map (res1 rB).enc)
theorem cc_kbd : CallC Tryz.prog 177 M_kbd := pk_kbd.2
theorem en_kbc : Enters Tryz.prog 147 := ⟨_, Tryz.func147, rfl, rfl⟩
def ty_kbc : List (Nat × TI) := [ti9]
noncomputable def C_kbc : Cfg := mkC ty_kbc [] [(177, M_kbd)] [177] [] [] [] []
theorem E_kbc : Env1 Tryz.prog C_kbc := mkC_ok (by kernel_rfl) (⟨⟨en_kbd, cc_kbd⟩, trivial⟩) (by kernel_rfl)
theorem c_stl_CutPrefix : CIs (C_kbc) ty_kbc [] [(177, M_kbd)] [177] [177] [] [] [] [] [] [] := ⟨rfl, rfl, rfl, rfl, rfl, rfl, rfl, rfl, rfl, rfl, rfl⟩
set_option maxHeartbeats 20000000 in
set_option maxRecDepth 100000 in
noncomputable def pk_kbc : { F : ByteArray → ByteArray → Option (ByteArray × Bool) // CallC Tryz.prog 147 (con2 eStr eStr (fun x0 x1 => (F x0 x1).map (res2 rS rB).enc)) } :=
  ⟨_, cc2 E_kbc Tryz.func147 rfl rfl (T := []) (G := []) (r := (res2 rS rB)) fun x0 x1 => by
    unfold Wf
    simp (maxSteps := 10000000) (implicitDefEqProofs := false) [ty_kbc, c_stl_CutPrefix, Tryz.f147, M_kbd, iC, uC, bC, sC]
    try rfl⟩
noncomputable def F_kbc : ByteArray → ByteArray → Option (ByteArray × Bool) := pk_kbc.1
noncomputable def M_kbc : List DA → Option (List RV) := con2 eStr eStr (fun x0 x1 => (F_kbc x0 x1).map (res2 rS rB).enc)
theorem cc_kbc : CallC Tryz.prog 147 M_kbc := pk_kbc.2
theorem en_kbe : Enters Tryz.prog 113 := ⟨_, Tryz.func113, rfl, rfl⟩
def ty_kbe : List (Nat × TI) := [ti9]
noncomputable def C_kbe : Cfg := mkC ty_kbe [] [(147, M_kbc)] [147] [] [] [] []
theorem E_kbe : Env1 Tryz.prog C_kbe := mkC_ok (by kernel_rfl) (⟨⟨en_kbc, cc_kbc⟩, trivial⟩) (by kernel_rfl)
theorem c_str_CutPrefix : CIs (C_kbe) ty_kbe [] [(147, M_kbc)] [147] [147] [] [] [] [] [] [] := ⟨rfl, rfl, rfl, rfl, rfl, rfl, rfl, rfl, rfl, rfl, rfl⟩
set_option maxHeartbeats 20000000 in
set_option maxRecDepth 100000 in
noncomputable def pk_kbe : { F : ByteArray → ByteArray → Option (ByteArray × Bool) // CallC Tryz.prog 113 (con2 eStr eStr (fun x0 x1 => (F x0 x1).map (res2 rS rB).enc)) } :=
  ⟨_, cc2 E_kbe Tryz.func113 rfl rfl (T := []) (G := []) (r := (res2 rS rB)) fun x0 x1 => by
    unfold Wf
    simp (maxSteps := 10000000) (implicitDefEqProofs := false) [ty_kbe, c_str_CutPrefix, Tryz.f113, M_kbc, iC, uC, bC, sC]
    try rfl⟩
noncomputable def F_kbe : ByteArray → ByteArray → Option (ByteArray × Bool) := pk_kbe.1
noncomputable def M_kbe : List DA → Option (List RV) := con2 eStr eStr (fun x0 x1 => (F_kbe x0 x1).map (res2 rS rB).enc)
theorem cc_kbe : CallC Tryz.prog 113 M_kbe := pk_kbe.2

end Go.Vm

/- What Go functions come to, as Lean functions: each with its contract. -/
set_option linter.unusedVariables false
set_option linter.unusedSimpArgs false
namespace Go.Vm
open Go Go.RowKit Go.Proofs
attribute [-simp] env0 envI evOps evOne evOp evIndexAddr evIndex evPick binV evLoad evStore loadC callV nilC storeC toDVs toDAs resRs
attribute [local simp] List.lookup List.replicate List.range_succ env0_tree envI_tree

theorem en_k64 : Enters Tryz.prog 107 := ⟨_, Tryz.func107, rfl, rfl⟩
def ty_k64 : List (Nat × TI) := [ti3, ti5, ti165, ti9]
noncomputable def C_k64 (M_ : List DA → Option (List RV)) : Cfg := mkC ty_k64 [] [(107, M_)] [107] [] [] [] []
theorem E_k64 (M_ : List DA → Option (List RV)) (h_ : CallC Tryz.prog 107 M_) : Env1 Tryz.prog (C_k64 M_) := mkC_ok (by kernel_rfl) (⟨⟨en_k64, h_⟩, trivial⟩) (by kernel_rfl)
theorem c_r03_bytes (M_ : List DA → Option (List RV)) : CIs (C_k64 M_) ty_k64 [] [(107, M_)] [107] [107] [] [] [] [] [] [] := ⟨rfl, rfl, rfl, rfl, rfl, rfl, rfl, rfl, rfl, rfl, rfl⟩
set_option maxHeartbeats 20000000 in
set_option maxRecDepth 100000 in
noncomputable def pk_k64 : { G_ : (Int → Option (ByteArray)) → Int → Option (ByteArray) // ∀ F_ : Int → Option (ByteArray), CallC Tryz.prog 107 (con1 eInt (fun x0 => (F_ x0).map (res1 rS).enc)) → CallC Tryz.prog 107 (con1 eInt (fun x0 => (G_ F_ x0).map (res1 rS).enc)) } :=
  ⟨_, fun F_ h_ => cc1 (E_k64 _ h_) Tryz.func107 rfl rfl (T := []) (G := []) (r := (res1 rS)) fun x0 => by
    unfold Wf
    simp (maxSteps := 10000000) (implicitDefEqProofs := false) [ty_k64, c_r03_bytes, Tryz.f107, iC, uC, bC, sC]
    try rfl⟩
noncomputable def G_r03_bytes : (Int → Option (ByteArray)) → Int → Option (ByteArray) := pk_k64.1
noncomputable def F_k64 : Int → Option (ByteArray) := deepF G_r03_bytes 40
noncomputable def M_k64 : List DA → Option (List RV) := con1 eInt (fun x0 => (F_k64 x0).map (res1 rS).enc)
theorem cc_k64 : CallC Tryz.prog 107 M_k64 := rec1 pk_k64.2 fun a x h => ⟨40, h⟩
theorem en_k60 : Enters Tryz.prog 70 := ⟨_, Tryz.func70, rfl, rfl⟩
def ty_k60 : List (Nat × TI) := [ti3, ti9, ti5, ti165]
noncomputable def C_k60 : Cfg := mkC ty_k60 [] [(107, M_k64)] [107] [] [] [] []
theorem E_k60 : Env1 Tryz.prog C_k60 := mkC_ok (by kernel_rfl) (⟨⟨en_k64, cc_k64⟩, trivial⟩) (by kernel_rfl)
theorem c_r03_Number : CIs (C_k60) ty_k60 [] [(107, M_k64)] [107] [107] [] [] [] [] [] [] := ⟨rfl, rfl, rfl, rfl, rfl, rfl, rfl, rfl, rfl, rfl, rfl⟩
set_option maxHeartbeats 20000000 in
set_option maxRecDepth 100000 in
noncomputable def pk_k60 : { F : Int → Option (ByteArray) // CallC Tryz.prog 70 (con1 eInt (fun x0 => (F x0).map (res1 rS).enc)) } :=
  ⟨_, cc1 E_k60 Tryz.func70 rfl rfl (T := []) (G := []) (r := (res1 rS)) fun x0 => by
    unfold Wf
    simp (maxSteps := 10000000) (implicitDefEqProofs := false) [ty_k60, c_r03_Number, Tryz.f70, M_k64, iC, uC, bC, sC]
    try rfl⟩
noncomputable def F_k60 : Int → Option (ByteArray) := pk_k60.1
noncomputable def M_k60 : List DA → Option (List RV) := con1 eInt (fun x0 => (F_k60 x0).map (res1 rS).enc)
theorem cc_k60 : CallC Tryz.prog 70 M_k60 := pk_k60.2
theorem en_k61 : Enters Tryz.prog 137 := ⟨_, Tryz.func137, rfl, rfl⟩
def ty_k61 : List (Nat × TI) := [ti9, ti3, ti5]
noncomputable def C_k61 : Cfg := mkC ty_k61 [] [(70, M_k60)] [70] [] [0,1,7,8,9] [] [(11, [true, false, true, true, true, true, true, true, true, true, true, true]), (13, [true, true, true, true, true, true, true, true])]
theorem E_k61 : Env1 Tryz.prog C_k61 := mkC_ok (by kernel_rfl) (⟨⟨en_k60, cc_k60⟩, trivial⟩) (by kernel_rfl)
theorem c_r03_TakeNumber : CIs (C_k61) ty_k61 [] [(70, M_k60)] [70] [70] [] [0,1,7,8,9] [] [(11, [true, false, true, true, true, true, true, true, true, true, true, true]), (13, [true, true, true, true, true, true, true, true])] [] [] := ⟨rfl, rfl, rfl, rfl, rfl, rfl, rfl, rfl, rfl, rfl, rfl⟩
structure L_k61_0 where
  s_ : ByteArray
  most : Int
  many : Int
  n : Int
  i : Int
def an_k61_0 : Ann := mkAnn (σ := L_k61_0) (lCons (vOne cS) <| lCons (vOne cI) <| lSkip vUnk <| lSkip vUnk <| lSkip vUnk <| lSkip vUnk <| lSkip vUnk <| lCons (vOne cI) <| lCons (vOne cI) <| lCons (vOne cI) <| K8 <| K8 <| K8 <| K8 <| K8 <| K8 <| K8 <| lSkip vUnk <| lSkip vUnk <| lSkip vUnk <| lSkip vUnk <| lSkip vUnk <|  lNil) ( lNil)
  (fun a b => L_k61_0.mk (a.1) (a.2.1) (a.2.2.1) (a.2.2.2.1) (a.2.2.2.2.1)) (fun s => (s.s_, s.most, s.many, s.n, s.i, ())) (fun s => (())) (fun a b => true) (fun _ _ _ => ⟨rfl, rfl⟩)
theorem an_k61_0_c (C : Cfg) : an_k61_0.c C = C := rfl
set_option maxRecDepth 100000 in
theorem an_k61_0_st (s : an_k61_0.σ) : an_k61_0.st s = (toL 71 (.node (.node (.node (.node (.node (.node (.node (.node (.leaf (.v (.one (.d (.sc (.string (L_k61_0.s_ s))))))) (.leaf (.v (.one (.d (.sc (.int .i64 (L_k61_0.most s)))))))) (.leaf (.unk))) (.node (.leaf (.unk)) (.node (.leaf (.unk)) (.leaf (.v (.one (.d (.sc (.int .i64 (L_k61_0.many s)))))))))) (.node (.node (.node (.leaf (.v (.one (.d (.sc (.int .i64 (L_k61_0.n s))))))) (.leaf (.v (.one (.d (.sc (.int .i64 (L_k61_0.i s)))))))) (.leaf (.unk))) (.leaf (.unk)))) (.leaf (.unk))) (.leaf (.unk))) (.leaf (.unk))) (.leaf (.unk))), []) := rfl
set_option maxHeartbeats 4000000 in
set_option maxRecDepth 100000 in
theorem an_k61_0_un {β : Type} (s_ : ByteArray) (most : Int) (many : Int) (n : Int) (i : Int) (f_ : an_k61_0.σ → Option β) : (an_k61_0.un (.v (.one (.d (.sc (.string s_)))) :: .v (.one (.d (.sc (.int .i64 most)))) :: .unk :: .unk :: .unk :: .unk :: .unk :: .v (.one (.d (.sc (.int .i64 many)))) :: .v (.one (.d (.sc (.int .i64 n)))) :: .v (.one (.d (.sc (.int .i64 i)))) :: U8 (U8 (U8 (U8 (U8 (U8 (U8 (.unk :: .unk :: .unk :: .unk :: .unk :: [])))))))) []).bind f_ = f_ (L_k61_0.mk s_ most many n i) :=
  (mkAnn_un (σ := L_k61_0) _ _ _ _ _ _ _ _ _ f_).trans (by simp (maxSteps := 10000000) [Option.bind_assoc, U8, U64, K8, K64])
def T_k61 : List (Nat × LoopA) := [(0, .ty an_k61_0)]
set_option maxHeartbeats 20000000 in
set_option maxRecDepth 100000 in
noncomputable def pk_k61 : { F : ByteArray → Int → Option (Int × ByteArray × Bool) // CallC Tryz.prog 137 (con2 eStr eInt (fun x0 x1 => (F x0 x1).map (res3 rI rS rB).enc)) } :=
  ⟨_, cc2 E_k61 Tryz.func137 rfl rfl (T := T_k61) (G := []) (r := (res3 rI rS rB)) fun x0 x1 => by
    unfold Wf
    simp (maxSteps := 10000000) (implicitDefEqProofs := false) [ty_k61, c_r03_TakeNumber, T_k61, Tryz.f137, M_k60, an_k61_0_st, an_k61_0_un, an_k61_0_c, iC, uC, bC, sC]
    try rfl⟩
noncomputable def F_k61 : ByteArray → Int → Option (Int × ByteArray × Bool) := pk_k61.1
noncomputable def M_k61 : List DA → Option (List RV) := con2 eStr eInt (fun x0 x1 => (F_k61 x0 x1).map (res3 rI rS rB).enc)
theorem cc_k61 : CallC Tryz.prog 137 M_k61 := pk_k61.2
theorem en_k68 : Enters Tryz.prog 37 := ⟨_, Tryz.func37, rfl, rfl⟩
def ty_k68 : List (Nat × TI) := [ti31, ti3, ti85, ti9]
noncomputable def C_k68 : Cfg := mkC ty_k68 [] [(69, M_k66), (70, M_k60), (71, M_k63)] [69, 70, 71] [] [1,4,5,6] [] []
theorem E_k68 : Env1 Tryz.prog C_k68 := mkC_ok (by kernel_rfl) (⟨⟨en_k66, cc_k66⟩, ⟨⟨en_k60, cc_k60⟩, ⟨⟨en_k63, cc_k63⟩, trivial⟩⟩⟩) (by kernel_rfl)
theorem c_r04_Encode : CIs (C_k68) ty_k68 [] [(69, M_k66), (70, M_k60), (71, M_k63)] [69, 70, 71] [69, 70, 71] [] [1,4,5,6] [] [] [] [] := ⟨rfl, rfl, rfl, rfl, rfl, rfl, rfl, rfl, rfl, rfl, rfl⟩
def T_k68 : List (Nat × LoopA) := [(0, .un)]
set_option maxHeartbeats 20000000 in
set_option maxRecDepth 100000 in
noncomputable def pk_k68 : { F : Tx → Option (ByteArray × Bool) // CallC Tryz.prog 37 (con1 (eT ceTx) (fun x0 => (F x0).map (res2 rS rB).enc)) } :=
  ⟨_, cc1 E_k68 Tryz.func37 rfl rfl (T := T_k68) (G := []) (r := (res2 rS rB)) fun x0 => by
    unfold Wf
    simp (maxSteps := 10000000) (implicitDefEqProofs := false) [ty_k68, c_r04_Encode, T_k68, Tryz.f37, M_k66, M_k60, M_k63, iC, uC, bC, sC, Tx.c, wrap64]
    try rfl⟩
noncomputable def F_k68 : Tx → Option (ByteArray × Bool) := pk_k68.1
noncomputable def M_k68 : List DA → Option (List RV) := con1 (eT ceTx) (fun x0 => (F_k68 x0).map (res2 rS rB).enc)
theorem cc_k68 : CallC Tryz.prog 37 M_k68 := pk_k68.2
theorem en_k6a : Enters Tryz.prog 38 := ⟨_, Tryz.func38, rfl, rfl⟩
def ty_k6a : List (Nat × TI) := [ti31, ti9, ti3]
noncomputable def C_k6a : Cfg := mkC ty_k6a [] [(37, M_k68), (72, M_k5c)] [37, 72] [] [] [] []
theorem E_k6a : Env1 Tryz.prog C_k6a := mkC_ok (by kernel_rfl) (⟨⟨en_k68, cc_k68⟩, ⟨⟨en_k5c, cc_k5c⟩, trivial⟩⟩) (by kernel_rfl)
theorem c_r04_Slots : CIs (C_k6a) ty_k6a [] [(37, M_k68), (72, M_k5c)] [37, 72] [37, 72] [] [] [] [] [] [] := ⟨rfl, rfl, rfl, rfl, rfl, rfl, rfl, rfl, rfl, rfl, rfl⟩
set_option maxHeartbeats 20000000 in
set_option maxRecDepth 100000 in
noncomputable def pk_k6a : { F : Tx → Option (Int) // CallC Tryz.prog 38 (con1 (eT ceTx) (fun x0 => (F x0).map (res1 rI).enc)) } :=
  ⟨_, cc1 E_k6a Tryz.func38 rfl rfl (T := []) (G := []) (r := (res1 rI)) fun x0 => by
    unfold Wf
    simp (maxSteps := 10000000) (implicitDefEqProofs := false) [ty_k6a, c_r04_Slots, Tryz.f38, M_k68, M_k5c, iC, uC, bC, sC, Tx.c]
    try rfl⟩
noncomputable def F_k6a : Tx → Option (Int) := pk_k6a.1
noncomputable def M_k6a : List DA → Option (List RV) := con1 (eT ceTx) (fun x0 => (F_k6a x0).map (res1 rI).enc)
theorem cc_k6a : CallC Tryz.prog 38 M_k6a := pk_k6a.2
theorem en_k71 : Enters Tryz.prog 95 := ⟨_, Tryz.func95, rfl, rfl⟩
def ty_k71 : List (Nat × TI) := [ti65, ti31, ti3, ti32]
noncomputable def C_k71 : Cfg := mkC ty_k71 [] [(62, M_k6e), (69, M_k66), (32, M_k70), (139, M_k5b), (38, M_k6a)] [62, 69, 32, 139, 38] [] [] [] [(10, [true, true, true, false, true, true, true])]
theorem E_k71 : Env1 Tryz.prog C_k71 := mkC_ok (by kernel_rfl) (⟨⟨en_k6e, cc_k6e⟩, ⟨⟨en_k66, cc_k66⟩, ⟨⟨en_k70, cc_k70⟩, ⟨⟨en_k5b, cc_k5b⟩, ⟨⟨en_k6a, cc_k6a⟩, trivial⟩⟩⟩⟩⟩) (by kernel_rfl)
theorem c_r05_Place : CIs (C_k71) ty_k71 [] [(62, M_k6e), (69, M_k66), (32, M_k70), (139, M_k5b), (38, M_k6a)] [62, 69, 32, 139, 38] [62, 69, 32, 139, 38] [] [] [] [(10, [true, true, true, false, true, true, true])] [] [] := ⟨rfl, rfl, rfl, rfl, rfl, rfl, rfl, rfl, rfl, rfl, rfl⟩
set_option maxHeartbeats 20000000 in
set_option maxRecDepth 100000 in
noncomputable def pk_k71 : { F : Acc → Tx → Int → Int → Option (Int × Int) // CallC Tryz.prog 95 (con4 (eT ceAcc) (eT ceTx) eInt eInt (fun x0 x1 x2 x3 => (F x0 x1 x2 x3).map (res2 rI rI).enc)) } :=
  ⟨_, cc4 E_k71 Tryz.func95 rfl rfl (T := []) (G := []) (r := (res2 rI rI)) fun x0 x1 x2 x3 => by
    unfold Wf
    simp (maxSteps := 10000000) (implicitDefEqProofs := false) [ty_k71, c_r05_Place, Tryz.f95, M_k6e, M_k66, M_k70, M_k5b, M_k6a, iC, uC, bC, sC, Acc.c, Tx.c]
    try rfl⟩
noncomputable def F_k71 : Acc → Tx → Int → Int → Option (Int × Int) := pk_k71.1
noncomputable def M_k71 : List DA → Option (List RV) := con4 (eT ceAcc) (eT ceTx) eInt eInt (fun x0 x1 x2 x3 => (F_k71 x0 x1 x2 x3).map (res2 rI rI).enc)
theorem cc_k71 : CallC Tryz.prog 95 M_k71 := pk_k71.2
theorem en_k75 : Enters Tryz.prog 104 := ⟨_, Tryz.func104, rfl, rfl⟩
def ty_k75 : List (Nat × TI) := [ti65, ti32, ti3, ti31]
noncomputable def C_k75 : Cfg := mkC ty_k75 [] [(38, M_k6a)] [38] [] [1,3,4] [] []
theorem E_k75 : Env1 Tryz.prog C_k75 := mkC_ok (by kernel_rfl) (⟨⟨en_k6a, cc_k6a⟩, trivial⟩) (by kernel_rfl)
theorem c_r05_Slots : CIs (C_k75) ty_k75 [] [(38, M_k6a)] [38] [38] [] [1,3,4] [] [] [] [] := ⟨rfl, rfl, rfl, rfl, rfl, rfl, rfl, rfl, rfl, rfl, rfl⟩
structure L_k75_0 where
  n : Int
  i : Int
  a_ : Acc
def an_k75_0 : Ann := mkAnn (σ := L_k75_0) (lSkip vUnk <| lSkip (vOne (cPtr 0 0 0)) <| lSkip vUnk <| lCons (vOne cI) <| lCons (vOne cI) <| K8 <| K8 <|  lNil) (lCons (oBox 65 (cStr ceAcc)) <|  lNil)
  (fun a b => L_k75_0.mk (a.1) (a.2.1) (b.1)) (fun s => (s.n, s.i, ())) (fun s => (s.a_, ())) (fun a b => true) (fun _ _ _ => ⟨rfl, rfl⟩)
theorem an_k75_0_c (C : Cfg) : an_k75_0.c C = C := rfl
set_option maxRecDepth 100000 in
theorem an_k75_0_st (s : an_k75_0.σ) : an_k75_0.st s = (toL 21 (.node (.node (.node (.node (.node (.node (.node (.node (.leaf (.unk)) (.leaf (.v (.one (.ptr 0 0 0))))) (.node (.leaf (.unk)) (.leaf (.v (.one (.d (.sc (.int .i64 (L_k75_0.n s))))))))) (.node (.node (.leaf (.v (.one (.d (.sc (.int .i64 (L_k75_0.i s))))))) (.leaf (.unk))) (.leaf (.unk)))) (.leaf (.unk))) (.leaf (.unk))) (.leaf (.unk))) (.leaf (.unk))) (.leaf (.unk))), [.box 65 (ddv (Acc.c (L_k75_0.a_ s)))]) := rfl
set_option maxHeartbeats 4000000 in
set_option maxRecDepth 100000 in
theorem an_k75_0_un {β : Type} (n : Int) (i : Int) (p_a_ : List CV) (f_ : an_k75_0.σ → Option β) : (an_k75_0.un (.unk :: .v (.one (.ptr 0 0 0)) :: .unk :: .v (.one (.d (.sc (.int .i64 n)))) :: .v (.one (.d (.sc (.int .i64 i)))) :: U8 (U8 ([]))) [.box 65 p_a_]).bind f_ = ((allD p_a_).bind dAcc).bind fun a_ => f_ (L_k75_0.mk n i a_) :=
  (mkAnn_un (σ := L_k75_0) _ _ _ _ _ _ _ _ _ f_).trans (by simp (maxSteps := 10000000) [Option.bind_assoc, U8, U64, K8, K64])
def T_k75 : List (Nat × LoopA) := [(0, .ty an_k75_0)]
set_option maxHeartbeats 20000000 in
set_option maxRecDepth 100000 in
noncomputable def pk_k75 : { F : Acc → Option (Int) // CallC Tryz.prog 104 (con1 (eT ceAcc) (fun x0 => (F x0).map (res1 rI).enc)) } :=
  ⟨_, cc1 E_k75 Tryz.func104 rfl rfl (T := T_k75) (G := []) (r := (res1 rI)) fun x0 => by
    unfold Wf
    simp (maxSteps := 10000000) (implicitDefEqProofs := false) [ty_k75, c_r05_Slots, T_k75, Tryz.f104, M_k6a, an_k75_0_st, an_k75_0_un, an_k75_0_c, iC, uC, bC, sC, Acc.c, Tx.c]
    try rfl⟩
noncomputable def F_k75 : Acc → Option (Int) := pk_k75.1
noncomputable def M_k75 : List DA → Option (List RV) := con1 (eT ceAcc) (fun x0 => (F_k75 x0).map (res1 rI).enc)
theorem cc_k75 : CallC Tryz.prog 104 M_k75 := pk_k75.2
theorem en_k67 : Enters Tryz.prog 94 := ⟨_, Tryz.func94, rfl, rfl⟩
def ty_k67 : List (Nat × TI) := [ti31, ti189, ti9, ti3]
noncomputable def C_k67 : Cfg := mkC ty_k67 [] [(137, M_k61), (138, M_k62), (37, M_k68)] [137, 138, 37] [] [0,2,4,5,6] [] []
theorem E_k67 : Env1 Tryz.prog C_k67 := mkC_ok (by kernel_rfl) (⟨⟨en_k61, cc_k61⟩, ⟨⟨en_k62, cc_k62⟩, ⟨⟨en_k68, cc_k68⟩, trivial⟩⟩⟩) (by kernel_rfl)
theorem c_r04_Decode : CIs (C_k67) ty_k67 [] [(137, M_k61), (138, M_k62), (37, M_k68)] [137, 138, 37] [137, 138, 37] [] [0,2,4,5,6] [] [] [] [] := ⟨rfl, rfl, rfl, rfl, rfl, rfl, rfl, rfl, rfl, rfl, rfl⟩
def T_k67 : List (Nat × LoopA) := [(0, .un)]
set_option maxHeartbeats 20000000 in
set_option maxRecDepth 100000 in
noncomputable def pk_k67 : { F : ByteArray → Option (Tx × Bool) // CallC Tryz.prog 94 (con1 eStr (fun x0 => (F x0).map (res2 (rAgg ceTx) rB).enc)) } :=
  ⟨_, cc1 E_k67 Tryz.func94 rfl rfl (T := T_k67) (G := []) (r := (res2 (rAgg ceTx) rB)) fun x0 => by
    unfold Wf
    simp (maxSteps := 10000000) (implicitDefEqProofs := false) [ty_k67, c_r04_Decode, T_k67, Tryz.f94, M_k61, M_k62, M_k68, iC, uC, bC, sC, Tx.c, wrap64]
    try rfl⟩
noncomputable def F_k67 : ByteArray → Option (Tx × Bool) := pk_k67.1
noncomputable def M_k67 : List DA → Option (List RV) := con1 eStr (fun x0 => (F_k67 x0).map (res2 (rAgg ceTx) rB).enc)
theorem cc_k67 : CallC Tryz.prog 94 M_k67 := pk_k67.2

end Go.Vm

/- What Go functions come to, as Lean functions: each with its contract. -/
set_option linter.unusedVariables false
set_option linter.unusedSimpArgs false
namespace Go.Vm
open Go Go.RowKit Go.Proofs
attribute [-simp] env0 envI evOps evOne evOp evIndexAddr evIndex evPick binV evLoad evStore loadC callV nilC storeC toDVs toDAs resRs
attribute [local simp] List.lookup List.replicate List.range_succ env0_tree envI_tree

theorem en_k03 : Enters Tryz.prog 150 := ⟨_, Tryz.func150, rfl, rfl⟩
def ty_k03 : List (Nat × TI) := [ti3, ti225, ti5, ti165, ti9]
noncomputable def C_k03 : Cfg := mkC ty_k03 [] [] [] [] [0,3,4] [] []
theorem E_k03 : Env1 Tryz.prog C_k03 := mkC_ok (by kernel_rfl) trivial (by kernel_rfl)
theorem c_codec_Number : CIs (C_k03) ty_k03 [] [] [] [] [] [0,3,4] [] [] [] [] := ⟨rfl, rfl, rfl, rfl, rfl, rfl, rfl, rfl, rfl, rfl, rfl⟩
def T_k03 : List (Nat × LoopA) := [(0, .un)]
set_option maxHeartbeats 20000000 in
set_option maxRecDepth 100000 in
noncomputable def pk_k03 : { F : Int → Option (ByteArray) // CallC Tryz.prog 150 (con1 eInt (fun x0 => (F x0).map (res1 rS).enc)) } :=
  ⟨_, cc1 E_k03 Tryz.func150 rfl rfl (T := T_k03) (G := []) (r := (res1 rS)) fun x0 => by
    unfold Wf
    simp (maxSteps := 10000000) (implicitDefEqProofs := false) [ty_k03, c_codec_Number, T_k03, Tryz.f150, iC, uC, bC, sC, wrap64]
    try rfl⟩
noncomputable def F_k03 : Int → Option (ByteArray) := pk_k03.1
noncomputable def M_k03 : List DA → Option (List RV) := con1 eInt (fun x0 => (F_k03 x0).map (res1 rS).enc)
theorem cc_k03 : CallC Tryz.prog 150 M_k03 := pk_k03.2
theorem en_k04 : Enters Tryz.prog 114 := ⟨_, Tryz.func114, rfl, rfl⟩
def ty_k04 : List (Nat × TI) := [ti9, ti3, ti165, ti5]
noncomputable def C_k04 : Cfg := mkC ty_k04 [] [(148, M_k07), (149, M_k08), (150, M_k03)] [149, 150] [] [] [] [(6, [true, true, true, true, true, true, true, true, true, true, true, true, true, true, true, true, true, true, true, true, true])]
theorem E_k04 : Env1 Tryz.prog C_k04 := mkC_ok (by kernel_rfl) (⟨⟨en_k07, cc_k07⟩, ⟨⟨en_k08, cc_k08⟩, ⟨⟨en_k03, cc_k03⟩, trivial⟩⟩⟩) (by kernel_rfl)
theorem c_codec_TakeNumber : CIs (C_k04) ty_k04 [] [(148, M_k07), (149, M_k08), (150, M_k03)] [148, 149, 150] [149, 150] [] [] [] [(6, [true, true, true, true, true, true, true, true, true, true, true, true, true, true, true, true, true, true, true, true, true])] [] [] := ⟨rfl, rfl, rfl, rfl, rfl, rfl, rfl, rfl, rfl, rfl, rfl⟩
set_option maxHeartbeats 20000000 in
set_option maxRecDepth 100000 in
noncomputable def pk_k04 : { F : ByteArray → Int → Option (Int × ByteArray × Bool) // CallC Tryz.prog 114 (con2 eStr eInt (fun x0 x1 => (F x0 x1).map (res3 rI rS rB).enc)) } :=
  ⟨_, cc2 E_k04 Tryz.func114 rfl rfl (T := []) (G := []) (r := (res3 rI rS rB)) fun x0 x1 => by
    unfold Wf
    simp (maxSteps := 10000000) (implicitDefEqProofs := false) [ty_k04, c_codec_TakeNumber, Tryz.f114, M_k07, M_k08, M_k03, iC, uC, bC, sC]
    try rfl⟩
noncomputable def F_k04 : ByteArray → Int → Option (Int × ByteArray × Bool) := pk_k04.1
noncomputable def M_k04 : List DA → Option (List RV) := con2 eStr eInt (fun x0 x1 => (F_k04 x0 x1).map (res3 rI rS rB).enc)
theorem cc_k04 : CallC Tryz.prog 114 M_k04 := pk_k04.2
theorem en_kcf : Enters Tryz.prog 74 := ⟨_, Tryz.func74, rfl, rfl⟩
def ty_kcf : List (Nat × TI) := [ti31, ti9, ti174, ti3, ti173]
noncomputable def C_kcf : Cfg := mkC ty_kcf [] [(113, M_kbe), (114, M_k04), (115, M_k05), (102, M_kce)] [113, 114, 115, 102] [] [2,4,6,22,23] [] []
theorem E_kcf : Env1 Tryz.prog C_kcf := mkC_ok (by kernel_rfl) (⟨⟨en_kbe, cc_kbe⟩, ⟨⟨en_k04, cc_k04⟩, ⟨⟨en_k05, cc_k05⟩, ⟨⟨en_kce, cc_kce⟩, trivial⟩⟩⟩⟩) (by kernel_rfl)
theorem c_txn_Decode : CIs (C_kcf) ty_kcf [] [(113, M_kbe), (114, M_k04), (115, M_k05), (102, M_kce)] [113, 114, 115, 102] [113, 114, 115, 102] [] [2,4,6,22,23] [] [] [] [] := ⟨rfl, rfl, rfl, rfl, rfl, rfl, rfl, rfl, rfl, rfl, rfl⟩
def T_kcf : List (Nat × LoopA) := [(0, .un)]
set_option maxHeartbeats 20000000 in
set_option maxRecDepth 100000 in
noncomputable def pk_kcf : { F : ByteArray → Option (Tx × Bool) // CallC Tryz.prog 74 (con1 eStr (fun x0 => (F x0).map (res2 (rAgg ceTx) rB).enc)) } :=
  ⟨_, cc1 E_kcf Tryz.func74 rfl rfl (T := T_kcf) (G := []) (r := (res2 (rAgg ceTx) rB)) fun x0 => by
    unfold Wf
    simp (maxSteps := 10000000) (implicitDefEqProofs := false) [ty_kcf, c_txn_Decode, T_kcf, Tryz.f74, M_kbe, M_k04, M_k05, M_kce, iC, uC, bC, sC, Tx.c, wrap64]
    try rfl⟩
noncomputable def F_kcf : ByteArray → Option (Tx × Bool) := pk_kcf.1
noncomputable def M_kcf : List DA → Option (List RV) := con1 eStr (fun x0 => (F_kcf x0).map (res2 (rAgg ceTx) rB).enc)
theorem cc_kcf : CallC Tryz.prog 74 M_kcf := pk_kcf.2

end Go.Vm
