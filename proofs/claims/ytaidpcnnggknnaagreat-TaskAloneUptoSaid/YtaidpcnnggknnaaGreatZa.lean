/- What Go functions come to, as Lean functions: each with its contract. -/
import Derived.Test.YtaidpcnnggknnaaGreatWc
import Derived.Test.YtaidpcnnggknnaaGreatYb
import Derived.Test.YtaidpcnnggknnaaGreatYa
import Derived.Test.YtaidpcnnggknnaaGreatVd
import Derived.Test.YtaidpcnnggknnaaGreatProg
import Derived.Test.YtaidpcnnggknnaaGreatK
import Derived.Test.YtaidpcnnggknnaaGreatYc

set_option linter.unusedVariables false
set_option linter.unusedSimpArgs false
namespace Go.Vm
open Go Go.RowKit Go.Proofs
attribute [-simp] env0 envI evOps evOne evOp evIndexAddr evIndex evPick binV evLoad evStore loadC callV nilC storeC toDVs toDAs resRs
attribute [local simp] List.lookup List.replicate List.range_succ env0_tree envI_tree

theorem en_kad : Enters Tryz.prog 63 := ⟨_, Tryz.func63, rfl, rfl⟩
def ty_kad : List (Nat × TI) := [ti113, ti24, ti3, ti65]
noncomputable def C_kad : Cfg := mkC ty_kad [] [(103, M_k58)] [103] [] [3,7,8,9] [] []
theorem E_kad : Env1 Tryz.prog C_kad := mkC_ok (by kernel_rfl) (⟨⟨en_k58, cc_k58⟩, trivial⟩) (by kernel_rfl)
theorem c_shard_Slots : CIs (C_kad) ty_kad [] [(103, M_k58)] [103] [103] [] [3,7,8,9] [] [] [] [] := ⟨rfl, rfl, rfl, rfl, rfl, rfl, rfl, rfl, rfl, rfl, rfl⟩
structure L_kad_0 where
  n : Int
  v7 : List Acc
  v8 : Int
  v9 : Int
  o0 : Shard
def an_kad_0 : Ann := (mkAnn (σ := L_kad_0) (lSkip vUnk <| lSkip vUnk <| lSkip vUnk <| lCons (vOne cI) <| lSkip vUnk <| lSkip vUnk <| lSkip vUnk <| lCons (vOne (cSl ceAcc)) <| lCons (vOne cI) <| lCons (vOne cI) <| K8 <| lSkip vUnk <|  lNil) (lCons (oBox 113 (cStr ceShard)) <|  lNil)
  (fun a b => L_kad_0.mk (a.1) (a.2.1) (a.2.2.1) (a.2.2.2.1) (b.1)) (fun s => (s.n, s.v7, s.v8, s.v9, ())) (fun s => (s.o0, ())) (fun a b => true) (fun _ _ _ => ⟨rfl, rfl⟩))
theorem an_kad_0_c (C : Cfg) : an_kad_0.c C = C := rfl
set_option maxRecDepth 100000 in
theorem an_kad_0_st (s : an_kad_0.σ) : an_kad_0.st s = (toL 19 (.node (.node (.node (.node (.node (.node (.node (.leaf (.unk)) (.node (.leaf (.unk)) (.leaf (.v (.one (.d (.sc (.int .i64 (L_kad_0.n s))))))))) (.node (.leaf (.unk)) (.node (.leaf (.unk)) (.leaf (.v (.one (.d (.sl ((L_kad_0.v7 s).map Acc.c))))))))) (.node (.node (.node (.leaf (.v (.one (.d (.sc (.int .i64 (L_kad_0.v8 s))))))) (.leaf (.v (.one (.d (.sc (.int .i64 (L_kad_0.v9 s)))))))) (.leaf (.unk))) (.leaf (.unk)))) (.leaf (.unk))) (.leaf (.unk))) (.leaf (.unk))) (.leaf (.unk))), [.box 113 (ddv (Shard.c (L_kad_0.o0 s)))]) := rfl
set_option maxHeartbeats 4000000 in
set_option maxRecDepth 100000 in
theorem an_kad_0_un {β : Type} (n : Int) (p_v7 : List (List DV)) (v8 : Int) (v9 : Int) (p_o0 : List CV) (f_ : an_kad_0.σ → Option β) : (an_kad_0.un (.unk :: .unk :: .unk :: .v (.one (.d (.sc (.int .i64 n)))) :: .unk :: .unk :: .unk :: .v (.one (.d (.sl p_v7))) :: .v (.one (.d (.sc (.int .i64 v8)))) :: .v (.one (.d (.sc (.int .i64 v9)))) :: U8 (.unk :: [])) [.box 113 p_o0]).bind f_ = (decL dAcc p_v7).bind fun v7 => ((allD p_o0).bind dShard).bind fun o0 => f_ (L_kad_0.mk n v7 v8 v9 o0) :=
  (mkAnn_un (σ := L_kad_0) _ _ _ _ _ _ _ _ _ f_).trans (by simp (maxSteps := 10000000) [Option.bind_assoc, U8, U64, K8, K64])
def T_kad : List (Nat × LoopA) := [(0, .ty an_kad_0)]
set_option maxHeartbeats 20000000 in
set_option maxRecDepth 100000 in
noncomputable def pk_kad : { F : Shard → Option (Int) // CallC Tryz.prog 63 (con1 (eT ceShard) (fun x0 => (F x0).map (res1 rI).enc)) } :=
  ⟨_, cc1 E_kad Tryz.func63 rfl rfl (T := T_kad) (G := []) (r := (res1 rI)) fun x0 => by
    unfold Wf
    simp (maxSteps := 10000000) (implicitDefEqProofs := false) [ty_kad, c_shard_Slots, T_kad, Tryz.f63, M_k58, an_kad_0_st, an_kad_0_un, an_kad_0_c, iC, uC, bC, sC, Acc.c, Shard.c, Tx.c]
    try rfl⟩
noncomputable def F_kad : Shard → Option (Int) := pk_kad.1
noncomputable def M_kad : List DA → Option (List RV) := con1 (eT ceShard) (fun x0 => (F_kad x0).map (res1 rI).enc)
theorem cc_kad : CallC Tryz.prog 63 M_kad := pk_kad.2
theorem en_k4b : Enters Tryz.prog 23 := ⟨_, Tryz.func23, rfl, rfl⟩
def ty_k4b : List (Nat × TI) := [ti113]
noncomputable def C_k4b : Cfg := mkC ty_k4b [] [(63, M_kad)] [63] [] [] [] []
theorem E_k4b : Env1 Tryz.prog C_k4b := mkC_ok (by kernel_rfl) (⟨⟨en_kad, cc_kad⟩, trivial⟩) (by kernel_rfl)
theorem c_pool_Slots : CIs (C_k4b) ty_k4b [] [(63, M_kad)] [63] [63] [] [] [] [] [] [] := ⟨rfl, rfl, rfl, rfl, rfl, rfl, rfl, rfl, rfl, rfl, rfl⟩
set_option maxHeartbeats 20000000 in
set_option maxRecDepth 100000 in
noncomputable def pk_k4b : { F : (List Acc) → Option (Int) // CallC Tryz.prog 23 (con1 (eL ceAcc) (fun x0 => (F x0).map (res1 rI).enc)) } :=
  ⟨_, cc1 E_k4b Tryz.func23 rfl rfl (T := []) (G := []) (r := (res1 rI)) fun x0 => by
    unfold Wf
    simp (maxSteps := 10000000) (implicitDefEqProofs := false) [ty_k4b, c_pool_Slots, Tryz.f23, M_kad, iC, uC, bC, sC, Acc.c, Shard.c, Tx.c]
    try rfl⟩
noncomputable def F_k4b : (List Acc) → Option (Int) := pk_k4b.1
noncomputable def M_k4b : List DA → Option (List RV) := con1 (eL ceAcc) (fun x0 => (F_k4b x0).map (res1 rI).enc)
theorem cc_k4b : CallC Tryz.prog 23 M_k4b := pk_k4b.2
theorem en_k47 : Enters Tryz.prog 21 := ⟨_, Tryz.func21, rfl, rfl⟩
def ty_k47 : List (Nat × TI) := [ti23, ti24, ti3, ti65, ti32, ti31]
noncomputable def C_k47 : Cfg := mkC ty_k47 [] [(19, M_k48), (23, M_k4b), (61, M_k51)] [19, 23, 61] [] [2,5,18,19,20] [] [(1, [false, false, true, true, true, true, true, true, true, true])]
theorem E_k47 : Env1 Tryz.prog C_k47 := mkC_ok (by kernel_rfl) (⟨⟨en_k48, cc_k48⟩, ⟨⟨en_k4b, cc_k4b⟩, ⟨⟨en_k51, cc_k51⟩, trivial⟩⟩⟩) (by kernel_rfl)
theorem c_pool_Check : CIs (C_k47) ty_k47 [] [(19, M_k48), (23, M_k4b), (61, M_k51)] [19, 23, 61] [19, 23, 61] [] [2,5,18,19,20] [] [(1, [false, false, true, true, true, true, true, true, true, true])] [] [] := ⟨rfl, rfl, rfl, rfl, rfl, rfl, rfl, rfl, rfl, rfl, rfl⟩
structure L_k47_0 where
  last : Int
  v18 : List Acc
  v19 : Int
  v20 : Int
  c : Config
def an_k47_0 : Ann := (mkAnn (σ := L_k47_0) (lSkip vUnk <| lSkip vUnk <| lSkip (vOne (cPtr 0 0 0)) <| lSkip vUnk <| lSkip vUnk <| lCons (vOne cI) <| K8 <| lSkip vUnk <| lSkip vUnk <| lSkip vUnk <| lSkip vUnk <| lCons (vOne (cSl ceAcc)) <| lCons (vOne cI) <| lCons (vOne cI) <| K8 <| K8 <| K8 <| lSkip vUnk <| lSkip vUnk <| lSkip vUnk <| lSkip vUnk <|  lNil) (lCons (oBox 23 (cStr ceConfig)) <|  lNil)
  (fun a b => L_k47_0.mk (a.1) (a.2.1) (a.2.2.1) (a.2.2.2.1) (b.1)) (fun s => (s.last, s.v18, s.v19, s.v20, ())) (fun s => (s.c, ())) (fun a b => true) (fun _ _ _ => ⟨rfl, rfl⟩))
theorem an_k47_0_c (C : Cfg) : an_k47_0.c C = C := rfl
set_option maxRecDepth 100000 in
theorem an_k47_0_st (s : an_k47_0.σ) : an_k47_0.st s = (toL 49 (.node (.node (.node (.node (.node (.node (.node (.leaf (.unk)) (.node (.leaf (.v (.one (.ptr 0 0 0)))) (.leaf (.unk)))) (.node (.node (.leaf (.unk)) (.leaf (.v (.one (.d (.sc (.int .i64 (L_k47_0.last s)))))))) (.leaf (.unk)))) (.leaf (.unk))) (.node (.node (.node (.leaf (.unk)) (.node (.leaf (.v (.one (.d (.sl ((L_k47_0.v18 s).map Acc.c)))))) (.leaf (.v (.one (.d (.sc (.int .i64 (L_k47_0.v19 s))))))))) (.node (.node (.leaf (.v (.one (.d (.sc (.int .i64 (L_k47_0.v20 s))))))) (.leaf (.unk))) (.leaf (.unk)))) (.leaf (.unk)))) (.leaf (.unk))) (.leaf (.unk))) (.leaf (.unk))), [.box 23 (ddv (Config.c (L_k47_0.c s)))]) := rfl
set_option maxHeartbeats 4000000 in
set_option maxRecDepth 100000 in
theorem an_k47_0_un {β : Type} (last : Int) (p_v18 : List (List DV)) (v19 : Int) (v20 : Int) (p_c : List CV) (f_ : an_k47_0.σ → Option β) : (an_k47_0.un (.unk :: .unk :: .v (.one (.ptr 0 0 0)) :: .unk :: .unk :: .v (.one (.d (.sc (.int .i64 last)))) :: U8 (.unk :: .unk :: .unk :: .unk :: .v (.one (.d (.sl p_v18))) :: .v (.one (.d (.sc (.int .i64 v19)))) :: .v (.one (.d (.sc (.int .i64 v20)))) :: U8 (U8 (U8 (.unk :: .unk :: .unk :: .unk :: []))))) [.box 23 p_c]).bind f_ = (decL dAcc p_v18).bind fun v18 => ((allD p_c).bind dConfig).bind fun c => f_ (L_k47_0.mk last v18 v19 v20 c) :=
  (mkAnn_un (σ := L_k47_0) _ _ _ _ _ _ _ _ _ f_).trans (by simp (maxSteps := 10000000) [Option.bind_assoc, U8, U64, K8, K64])
def T_k47 : List (Nat × LoopA) := [(0, .ty an_k47_0)]
set_option maxHeartbeats 20000000 in
set_option maxRecDepth 100000 in
noncomputable def pk_k47 : { F : Config → (List Acc) → Option (Bool) // CallC Tryz.prog 21 (con2 (eT ceConfig) (eL ceAcc) (fun x0 x1 => (F x0 x1).map (res1 rB).enc)) } :=
  ⟨_, cc2 E_k47 Tryz.func21 rfl rfl (T := T_k47) (G := []) (r := (res1 rB)) fun x0 x1 => by
    unfold Wf
    simp (maxSteps := 10000000) (implicitDefEqProofs := false) [ty_k47, c_pool_Check, T_k47, Tryz.f21, M_k48, M_k4b, M_k51, an_k47_0_st, an_k47_0_un, an_k47_0_c, iC, uC, bC, sC, Acc.c, Config.c, Tx.c]
    try rfl⟩
noncomputable def F_k47 : Config → (List Acc) → Option (Bool) := pk_k47.1
noncomputable def M_k47 : List DA → Option (List RV) := con2 (eT ceConfig) (eL ceAcc) (fun x0 x1 => (F_k47 x0 x1).map (res1 rB).enc)
theorem cc_k47 : CallC Tryz.prog 21 M_k47 := pk_k47.2
theorem en_k81 : Enters Tryz.prog 64 := ⟨_, Tryz.func64, rfl, rfl⟩
def ty_k81 : List (Nat × TI) := [ti63, ti24, ti3, ti65]
noncomputable def C_k81 : Cfg := mkC ty_k81 [] [(104, M_k75)] [104] [] [1,3,4] [] []
theorem E_k81 : Env1 Tryz.prog C_k81 := mkC_ok (by kernel_rfl) (⟨⟨en_k75, cc_k75⟩, trivial⟩) (by kernel_rfl)
theorem c_r11_Slots : CIs (C_k81) ty_k81 [] [(104, M_k75)] [104] [104] [] [1,3,4] [] [] [] [] := ⟨rfl, rfl, rfl, rfl, rfl, rfl, rfl, rfl, rfl, rfl, rfl⟩
structure L_k81_0 where
  n : Int
  i : Int
  s_ : Shard
def an_k81_0 : Ann := (mkAnn (σ := L_k81_0) (lSkip vUnk <| lSkip (vOne (cPtr 0 0 0)) <| lSkip vUnk <| lCons (vOne cI) <| lCons (vOne cI) <| K8 <| K8 <|  lNil) (lCons (oBox 63 (cStr ceShard)) <|  lNil)
  (fun a b => L_k81_0.mk (a.1) (a.2.1) (b.1)) (fun s => (s.n, s.i, ())) (fun s => (s.s_, ())) (fun a b => true) (fun _ _ _ => ⟨rfl, rfl⟩))
theorem an_k81_0_c (C : Cfg) : an_k81_0.c C = C := rfl
set_option maxRecDepth 100000 in
theorem an_k81_0_st (s : an_k81_0.σ) : an_k81_0.st s = (toL 21 (.node (.node (.node (.node (.node (.node (.node (.node (.leaf (.unk)) (.leaf (.v (.one (.ptr 0 0 0))))) (.node (.leaf (.unk)) (.leaf (.v (.one (.d (.sc (.int .i64 (L_k81_0.n s))))))))) (.node (.node (.leaf (.v (.one (.d (.sc (.int .i64 (L_k81_0.i s))))))) (.leaf (.unk))) (.leaf (.unk)))) (.leaf (.unk))) (.leaf (.unk))) (.leaf (.unk))) (.leaf (.unk))) (.leaf (.unk))), [.box 63 (ddv (Shard.c (L_k81_0.s_ s)))]) := rfl
set_option maxHeartbeats 4000000 in
set_option maxRecDepth 100000 in
theorem an_k81_0_un {β : Type} (n : Int) (i : Int) (p_s_ : List CV) (f_ : an_k81_0.σ → Option β) : (an_k81_0.un (.unk :: .v (.one (.ptr 0 0 0)) :: .unk :: .v (.one (.d (.sc (.int .i64 n)))) :: .v (.one (.d (.sc (.int .i64 i)))) :: U8 (U8 ([]))) [.box 63 p_s_]).bind f_ = ((allD p_s_).bind dShard).bind fun s_ => f_ (L_k81_0.mk n i s_) :=
  (mkAnn_un (σ := L_k81_0) _ _ _ _ _ _ _ _ _ f_).trans (by simp (maxSteps := 10000000) [Option.bind_assoc, U8, U64, K8, K64])
def T_k81 : List (Nat × LoopA) := [(0, .ty an_k81_0)]
set_option maxHeartbeats 20000000 in
set_option maxRecDepth 100000 in
noncomputable def pk_k81 : { F : Shard → Option (Int) // CallC Tryz.prog 64 (con1 (eT ceShard) (fun x0 => (F x0).map (res1 rI).enc)) } :=
  ⟨_, cc1 E_k81 Tryz.func64 rfl rfl (T := T_k81) (G := []) (r := (res1 rI)) fun x0 => by
    unfold Wf
    simp (maxSteps := 10000000) (implicitDefEqProofs := false) [ty_k81, c_r11_Slots, T_k81, Tryz.f64, M_k75, an_k81_0_st, an_k81_0_un, an_k81_0_c, iC, uC, bC, sC, Acc.c, Shard.c, Tx.c]
    try rfl⟩
noncomputable def F_k81 : Shard → Option (Int) := pk_k81.1
noncomputable def M_k81 : List DA → Option (List RV) := con1 (eT ceShard) (fun x0 => (F_k81 x0).map (res1 rI).enc)
theorem cc_k81 : CallC Tryz.prog 64 M_k81 := pk_k81.2
theorem en_k90 : Enters Tryz.prog 24 := ⟨_, Tryz.func24, rfl, rfl⟩
def ty_k90 : List (Nat × TI) := [ti63]
noncomputable def C_k90 : Cfg := mkC ty_k90 [] [(64, M_k81)] [64] [] [] [] []
theorem E_k90 : Env1 Tryz.prog C_k90 := mkC_ok (by kernel_rfl) (⟨⟨en_k81, cc_k81⟩, trivial⟩) (by kernel_rfl)
theorem c_r13_Slots : CIs (C_k90) ty_k90 [] [(64, M_k81)] [64] [64] [] [] [] [] [] [] := ⟨rfl, rfl, rfl, rfl, rfl, rfl, rfl, rfl, rfl, rfl, rfl⟩
set_option maxHeartbeats 20000000 in
set_option maxRecDepth 100000 in
noncomputable def pk_k90 : { F : (List Acc) → Option (Int) // CallC Tryz.prog 24 (con1 (eL ceAcc) (fun x0 => (F x0).map (res1 rI).enc)) } :=
  ⟨_, cc1 E_k90 Tryz.func24 rfl rfl (T := []) (G := []) (r := (res1 rI)) fun x0 => by
    unfold Wf
    simp (maxSteps := 10000000) (implicitDefEqProofs := false) [ty_k90, c_r13_Slots, Tryz.f24, M_k81, iC, uC, bC, sC, Acc.c, Shard.c, Tx.c]
    try rfl⟩
noncomputable def F_k90 : (List Acc) → Option (Int) := pk_k90.1
noncomputable def M_k90 : List DA → Option (List RV) := con1 (eL ceAcc) (fun x0 => (F_k90 x0).map (res1 rI).enc)
theorem cc_k90 : CallC Tryz.prog 24 M_k90 := pk_k90.2
theorem en_k89 : Enters Tryz.prog 22 := ⟨_, Tryz.func22, rfl, rfl⟩
def ty_k89 : List (Nat × TI) := [ti23, ti24, ti3, ti65, ti32, ti31]
noncomputable def C_k89 : Cfg := mkC ty_k89 [] [(20, M_k8a), (24, M_k90), (62, M_k6e)] [20, 24, 62] [] [1,2,5] [] [(1, [false, false, true, true, true, true, true, true, true, true]), (6, [true, true, true, true, true, true, false, true, true, true, true, true, true, false, true, true, true, true, true, true, false, true, true, true, true, true, true, true, true, true, true, true, true, true, true, true, true, true, true, true, true, true, true])]
theorem E_k89 : Env1 Tryz.prog C_k89 := mkC_ok (by kernel_rfl) (⟨⟨en_k8a, cc_k8a⟩, ⟨⟨en_k90, cc_k90⟩, ⟨⟨en_k6e, cc_k6e⟩, trivial⟩⟩⟩) (by kernel_rfl)
theorem c_r13_Check : CIs (C_k89) ty_k89 [] [(20, M_k8a), (24, M_k90), (62, M_k6e)] [20, 24, 62] [20, 24, 62] [] [1,2,5] [] [(1, [false, false, true, true, true, true, true, true, true, true]), (6, [true, true, true, true, true, true, false, true, true, true, true, true, true, false, true, true, true, true, true, true, false, true, true, true, true, true, true, true, true, true, true, true, true, true, true, true, true, true, true, true, true, true, true])] [] [] := ⟨rfl, rfl, rfl, rfl, rfl, rfl, rfl, rfl, rfl, rfl, rfl⟩
structure L_k89_0 where
  l : List Acc
  i : Int
  c : Config
def an_k89_0 : Ann := (mkAnn (σ := L_k89_0) (lSkip vUnk <| lCons (vOne (cSl ceAcc)) <| lSkip (vOne (cPtr 0 0 0)) <| lSkip vUnk <| lSkip vUnk <| lCons (vOne cI) <| K8 <| K8 <| K8 <| K8 <| K8 <| K8 <| K8 <| lSkip vUnk <| lSkip vUnk <| lSkip vUnk <|  lNil) (lCons (oBox 23 (cStr ceConfig)) <|  lNil)
  (fun a b => L_k89_0.mk (a.1) (a.2.1) (b.1)) (fun s => (s.l, s.i, ())) (fun s => (s.c, ())) (fun a b => true) (fun _ _ _ => ⟨rfl, rfl⟩))
theorem an_k89_0_c (C : Cfg) : an_k89_0.c C = C := rfl
set_option maxRecDepth 100000 in
theorem an_k89_0_st (s : an_k89_0.σ) : an_k89_0.st s = (toL 65 (.node (.node (.node (.node (.node (.node (.node (.node (.leaf (.unk)) (.leaf (.v (.one (.d (.sl ((L_k89_0.l s).map Acc.c))))))) (.node (.leaf (.v (.one (.ptr 0 0 0)))) (.leaf (.unk)))) (.node (.node (.leaf (.unk)) (.leaf (.v (.one (.d (.sc (.int .i64 (L_k89_0.i s)))))))) (.leaf (.unk)))) (.leaf (.unk))) (.leaf (.unk))) (.leaf (.unk))) (.leaf (.unk))) (.leaf (.unk))), [.box 23 (ddv (Config.c (L_k89_0.c s)))]) := rfl
set_option maxHeartbeats 4000000 in
set_option maxRecDepth 100000 in
theorem an_k89_0_un {β : Type} (p_l : List (List DV)) (i : Int) (p_c : List CV) (f_ : an_k89_0.σ → Option β) : (an_k89_0.un (.unk :: .v (.one (.d (.sl p_l))) :: .v (.one (.ptr 0 0 0)) :: .unk :: .unk :: .v (.one (.d (.sc (.int .i64 i)))) :: U8 (U8 (U8 (U8 (U8 (U8 (U8 (.unk :: .unk :: .unk :: [])))))))) [.box 23 p_c]).bind f_ = (decL dAcc p_l).bind fun l => ((allD p_c).bind dConfig).bind fun c => f_ (L_k89_0.mk l i c) :=
  (mkAnn_un (σ := L_k89_0) _ _ _ _ _ _ _ _ _ f_).trans (by simp (maxSteps := 10000000) [Option.bind_assoc, U8, U64, K8, K64])
def T_k89 : List (Nat × LoopA) := [(0, .ty an_k89_0)]
set_option maxHeartbeats 20000000 in
set_option maxRecDepth 100000 in
noncomputable def pk_k89 : { F : Config → (List Acc) → Option (Bool) // CallC Tryz.prog 22 (con2 (eT ceConfig) (eL ceAcc) (fun x0 x1 => (F x0 x1).map (res1 rB).enc)) } :=
  ⟨_, cc2 E_k89 Tryz.func22 rfl rfl (T := T_k89) (G := []) (r := (res1 rB)) fun x0 x1 => by
    unfold Wf
    simp (maxSteps := 10000000) (implicitDefEqProofs := false) [ty_k89, c_r13_Check, T_k89, Tryz.f22, M_k8a, M_k90, M_k6e, an_k89_0_st, an_k89_0_un, an_k89_0_c, iC, uC, bC, sC, Acc.c, Config.c, Tx.c]
    try rfl⟩
noncomputable def F_k89 : Config → (List Acc) → Option (Bool) := pk_k89.1
noncomputable def M_k89 : List DA → Option (List RV) := con2 (eT ceConfig) (eL ceAcc) (fun x0 x1 => (F_k89 x0 x1).map (res1 rB).enc)
theorem cc_k89 : CallC Tryz.prog 22 M_k89 := pk_k89.2
theorem en_k84 : Enters Tryz.prog 82 := ⟨_, Tryz.func82, rfl, rfl⟩
def ty_k84 : List (Nat × TI) := [ti65, ti24, ti3]
noncomputable def C_k84 : Cfg := mkC ty_k84 [] [] [] [(4, [(0, 65, 3)]), (5, [(0, 65, 3)])] [0,3,5,6,7] [] [(6, [true, true, true, true, true, true, true, true, true, true, true, true])]
theorem E_k84 : Env1 Tryz.prog C_k84 := mkC_ok (by kernel_rfl) trivial (by kernel_rfl)
theorem c_r11_put : CIs (C_k84) ty_k84 [] [] [] [] [(4, [(0, 65, 3)]), (5, [(0, 65, 3)])] [0,3,5,6,7] [] [(6, [true, true, true, true, true, true, true, true, true, true, true, true])] [] [] := ⟨rfl, rfl, rfl, rfl, rfl, rfl, rfl, rfl, rfl, rfl, rfl⟩
structure L_k84_0 where
  l : List Acc
  laid : Bool
  i : Int
  a_ : Acc
  o1 : List Acc
  out : List Acc
def an_k84_0 : Ann := (mkAnn (σ := L_k84_0) (lCons (vOne (cSl ceAcc)) <| lSkip vUnk <| lSkip vUnk <| lSkip (vOne (cPtr 0 0 0)) <| lSkip vUnk <| lCons (vOne (cOwn 2)) <| lCons (vOne cB) <| lCons (vOne cI) <| K8 <| K8 <| K8 <| K8 <| lSkip vUnk <| lSkip vUnk <| lSkip vUnk <| lSkip vUnk <|  lNil) (lCons (oBox 65 (cStr ceAcc)) <| lCons (oArr 65 3 ceAcc) <| lCons (oArr 65 3 ceAcc) <|  lNil)
  (fun a b => L_k84_0.mk (a.1) (a.2.2.1) (a.2.2.2.1) (b.1) (b.2.1) (b.2.2.1)) (fun s => (s.l, s.out.length, s.laid, s.i, ())) (fun s => (s.a_, s.o1, s.out, ())) (fun a b => decide (a.2.1 = (b.2.2.1).length)) (by rintro ⟨a0, a1, a2, a3, _⟩ ⟨b0, b1, b2, _⟩ h; simp at h; simp [h]))
theorem an_k84_0_c (C : Cfg) : an_k84_0.c C = C := rfl
set_option maxRecDepth 100000 in
theorem an_k84_0_st (s : an_k84_0.σ) : an_k84_0.st s = (toL 44 (.node (.node (.node (.node (.node (.node (.node (.node (.leaf (.v (.one (.d (.sl ((L_k84_0.l s).map Acc.c)))))) (.leaf (.unk))) (.node (.leaf (.unk)) (.leaf (.v (.one (.ptr 0 0 0)))))) (.node (.node (.leaf (.unk)) (.leaf (.v (.one (.own 2 (L_k84_0.out s).length))))) (.node (.leaf (.v (.one (.d (.sc (.bool (L_k84_0.laid s))))))) (.leaf (.v (.one (.d (.sc (.int .i64 (L_k84_0.i s)))))))))) (.leaf (.unk))) (.leaf (.unk))) (.leaf (.unk))) (.leaf (.unk))) (.leaf (.unk))), [.box 65 (ddv (Acc.c (L_k84_0.a_ s))), .arr 65 3 ((L_k84_0.o1 s).map Acc.c), .arr 65 3 ((L_k84_0.out s).map Acc.c)]) := rfl
set_option maxHeartbeats 4000000 in
set_option maxRecDepth 100000 in
theorem an_k84_0_un {β : Type} (p_l : List (List DV)) (m1_out : Nat) (laid : Bool) (i : Int) (p_a_ : List CV) (p_o1 : List (List DV)) (p_out : List (List DV)) (f_ : an_k84_0.σ → Option β) : (an_k84_0.un (.v (.one (.d (.sl p_l))) :: .unk :: .unk :: .v (.one (.ptr 0 0 0)) :: .unk :: .v (.one (.own 2 m1_out)) :: .v (.one (.d (.sc (.bool laid)))) :: .v (.one (.d (.sc (.int .i64 i)))) :: U8 (U8 (U8 (U8 (.unk :: .unk :: .unk :: .unk :: []))))) [.box 65 p_a_, .arr 65 3 p_o1, .arr 65 3 p_out]).bind f_ = (decL dAcc p_l).bind fun l => ((allD p_a_).bind dAcc).bind fun a_ => (decL dAcc p_o1).bind fun o1 => (decL dAcc p_out).bind fun out => (if m1_out = out.length then f_ (L_k84_0.mk l laid i a_ o1 out) else none) :=
  (mkAnn_un (σ := L_k84_0) _ _ _ _ _ _ _ _ _ f_).trans (by simp (maxSteps := 10000000) [Option.bind_assoc, U8, U64, K8, K64, bind_ite])
def T_k84 : List (Nat × LoopA) := [(0, .ty an_k84_0)]
set_option maxHeartbeats 20000000 in
set_option maxRecDepth 100000 in
noncomputable def pk_k84 : { F : (List Acc) → Acc → Option ((List Acc)) // CallC Tryz.prog 82 (con2 (eL ceAcc) (eT ceAcc) (fun x0 x1 => (F x0 x1).map (res1 (rSl ceAcc)).enc)) } :=
  ⟨_, cc2 E_k84 Tryz.func82 rfl rfl (T := T_k84) (G := []) (r := (res1 (rSl ceAcc))) fun x0 x1 => by
    unfold Wf
    simp (maxSteps := 10000000) (implicitDefEqProofs := false) [ty_k84, c_r11_put, T_k84, Tryz.f82, an_k84_0_st, an_k84_0_un, an_k84_0_c, iC, uC, bC, sC, Acc.c, Tx.c]
    try rfl⟩
noncomputable def F_k84 : (List Acc) → Acc → Option ((List Acc)) := pk_k84.1
noncomputable def M_k84 : List DA → Option (List RV) := con2 (eL ceAcc) (eT ceAcc) (fun x0 x1 => (F_k84 x0 x1).map (res1 (rSl ceAcc)).enc)
theorem cc_k84 : CallC Tryz.prog 82 M_k84 := pk_k84.2
theorem en_k7d : Enters Tryz.prog 46 := ⟨_, Tryz.func46, rfl, rfl⟩
def ty_k7d : List (Nat × TI) := [ti24, ti88, ti3, ti63, ti65]
noncomputable def C_k7d : Cfg := mkC ty_k7d [] [(82, M_k84)] [] [(3, [(0, 0, 0)]), (2, [(0, 65, 3)])] [0,3,4,5] [] []
theorem E_k7d : Env1 Tryz.prog C_k7d := mkC_ok (by kernel_rfl) (⟨⟨en_k84, cc_k84⟩, trivial⟩) (by kernel_rfl)
theorem c_r11_Join : CIs (C_k7d) ty_k7d [] [(82, M_k84)] [82] [] [(3, [(0, 0, 0)]), (2, [(0, 65, 3)])] [0,3,4,5] [] [] [] [] := ⟨rfl, rfl, rfl, rfl, rfl, rfl, rfl, rfl, rfl, rfl, rfl⟩
structure L_k7d_0 where
  l : List Shard
  out : List Acc
  i : Int
  o0 : List Acc
def an_k7d_0_b : Ann := (mkAnn (σ := L_k7d_0) (lCons (vOne (cSl ceShard)) <| lSkip vUnk <| lSkip vUnk <| lCons (vOne (cSl ceAcc)) <| lCons (vOne cI) <| K8 <| K8 <| K8 <| lSkip vUnk <| lSkip vUnk <| lSkip vUnk <| lSkip vUnk <|  lNil) (lCons (oArr 65 3 ceAcc) <|  lNil)
  (fun a b => L_k7d_0.mk (a.1) (a.2.1) (a.2.2.1) (b.1)) (fun s => (s.l, s.out, s.i, ())) (fun s => (s.o0, ())) (fun a b => true) (fun _ _ _ => ⟨rfl, rfl⟩))
def an_k7d_0 : Ann := setC an_k7d_0_b fun C => { C with vars := [0, 3, 4] }
theorem an_k7d_0_c (C : Cfg) : an_k7d_0.c C = { C with vars := [0, 3, 4] } := rfl
set_option maxRecDepth 100000 in
theorem an_k7d_0_st (s : an_k7d_0.σ) : an_k7d_0.st s = (toL 33 (.node (.node (.node (.node (.node (.node (.node (.node (.leaf (.v (.one (.d (.sl ((L_k7d_0.l s).map Shard.c)))))) (.leaf (.unk))) (.node (.leaf (.unk)) (.leaf (.v (.one (.d (.sl ((L_k7d_0.out s).map Acc.c)))))))) (.node (.node (.leaf (.v (.one (.d (.sc (.int .i64 (L_k7d_0.i s))))))) (.leaf (.unk))) (.leaf (.unk)))) (.leaf (.unk))) (.leaf (.unk))) (.leaf (.unk))) (.leaf (.unk))) (.leaf (.unk))), [.arr 65 3 ((L_k7d_0.o0 s).map Acc.c)]) := rfl
set_option maxHeartbeats 4000000 in
set_option maxRecDepth 100000 in
theorem an_k7d_0_un {β : Type} (p_l : List (List DV)) (p_out : List (List DV)) (i : Int) (p_o0 : List (List DV)) (f_ : an_k7d_0.σ → Option β) : (an_k7d_0.un (.v (.one (.d (.sl p_l))) :: .unk :: .unk :: .v (.one (.d (.sl p_out))) :: .v (.one (.d (.sc (.int .i64 i)))) :: U8 (U8 (U8 (.unk :: .unk :: .unk :: .unk :: [])))) [.arr 65 3 p_o0]).bind f_ = (decL dShard p_l).bind fun l => (decL dAcc p_out).bind fun out => (decL dAcc p_o0).bind fun o0 => f_ (L_k7d_0.mk l out i o0) :=
  show (an_k7d_0_b.un (.v (.one (.d (.sl p_l))) :: .unk :: .unk :: .v (.one (.d (.sl p_out))) :: .v (.one (.d (.sc (.int .i64 i)))) :: U8 (U8 (U8 (.unk :: .unk :: .unk :: .unk :: [])))) [.arr 65 3 p_o0]).bind f_ = _ from (mkAnn_un (σ := L_k7d_0) _ _ _ _ _ _ _ _ _ f_).trans (by simp (maxSteps := 10000000) [Option.bind_assoc, U8, U64, K8, K64])
structure L_k7d_2 where
  l : List Shard
  out : List Acc
  i : Int
  k : Int
  o0 : List Acc
def an_k7d_2 : Ann := (mkAnn (σ := L_k7d_2) (lCons (vOne (cSl ceShard)) <| lSkip vUnk <| lSkip vUnk <| lCons (vOne (cSl ceAcc)) <| lCons (vOne cI) <| lCons (vOne cI) <| K8 <| K8 <| K8 <| lSkip vUnk <| lSkip vUnk <| lSkip vUnk <|  lNil) (lCons (oArr 65 3 ceAcc) <|  lNil)
  (fun a b => L_k7d_2.mk (a.1) (a.2.1) (a.2.2.1) (a.2.2.2.1) (b.1)) (fun s => (s.l, s.out, s.i, s.k, ())) (fun s => (s.o0, ())) (fun a b => true) (fun _ _ _ => ⟨rfl, rfl⟩))
theorem an_k7d_2_c (C : Cfg) : an_k7d_2.c C = C := rfl
set_option maxRecDepth 100000 in
theorem an_k7d_2_st (s : an_k7d_2.σ) : an_k7d_2.st s = (toL 33 (.node (.node (.node (.node (.node (.node (.node (.node (.leaf (.v (.one (.d (.sl ((L_k7d_2.l s).map Shard.c)))))) (.leaf (.unk))) (.node (.leaf (.unk)) (.leaf (.v (.one (.d (.sl ((L_k7d_2.out s).map Acc.c)))))))) (.node (.node (.leaf (.v (.one (.d (.sc (.int .i64 (L_k7d_2.i s))))))) (.leaf (.v (.one (.d (.sc (.int .i64 (L_k7d_2.k s)))))))) (.leaf (.unk)))) (.leaf (.unk))) (.leaf (.unk))) (.leaf (.unk))) (.leaf (.unk))) (.leaf (.unk))), [.arr 65 3 ((L_k7d_2.o0 s).map Acc.c)]) := rfl
set_option maxHeartbeats 4000000 in
set_option maxRecDepth 100000 in
theorem an_k7d_2_un {β : Type} (p_l : List (List DV)) (p_out : List (List DV)) (i : Int) (k : Int) (p_o0 : List (List DV)) (f_ : an_k7d_2.σ → Option β) : (an_k7d_2.un (.v (.one (.d (.sl p_l))) :: .unk :: .unk :: .v (.one (.d (.sl p_out))) :: .v (.one (.d (.sc (.int .i64 i)))) :: .v (.one (.d (.sc (.int .i64 k)))) :: U8 (U8 (U8 (.unk :: .unk :: .unk :: [])))) [.arr 65 3 p_o0]).bind f_ = (decL dShard p_l).bind fun l => (decL dAcc p_out).bind fun out => (decL dAcc p_o0).bind fun o0 => f_ (L_k7d_2.mk l out i k o0) :=
  (mkAnn_un (σ := L_k7d_2) _ _ _ _ _ _ _ _ _ f_).trans (by simp (maxSteps := 10000000) [Option.bind_assoc, U8, U64, K8, K64])
def T_k7d : List (Nat × LoopA) := [(0, .ty an_k7d_0), (2, .ty an_k7d_2)]
set_option maxHeartbeats 20000000 in
set_option maxRecDepth 100000 in
noncomputable def pk_k7d : { F : (List Shard) → Option ((List Acc)) // CallC Tryz.prog 46 (con1 (eL ceShard) (fun x0 => (F x0).map (res1 (rSl ceAcc)).enc)) } :=
  ⟨_, cc1 E_k7d Tryz.func46 rfl rfl (T := T_k7d) (G := []) (r := (res1 (rSl ceAcc))) fun x0 => by
    unfold Wf
    simp (maxSteps := 10000000) (implicitDefEqProofs := false) [ty_k7d, c_r11_Join, T_k7d, Tryz.f46, M_k84, an_k7d_0_st, an_k7d_0_un, an_k7d_0_c, an_k7d_2_st, an_k7d_2_un, an_k7d_2_c, iC, uC, bC, sC, Acc.c, Shard.c, Tx.c]
    try rfl⟩
noncomputable def F_k7d : (List Shard) → Option ((List Acc)) := pk_k7d.1
noncomputable def M_k7d : List DA → Option (List RV) := con1 (eL ceShard) (fun x0 => (F_k7d x0).map (res1 (rSl ceAcc)).enc)
theorem cc_k7d : CallC Tryz.prog 46 M_k7d := pk_k7d.2
theorem en_k7c : Enters Tryz.prog 31 := ⟨_, Tryz.func31, rfl, rfl⟩
def ty_k7c : List (Nat × TI) := [ti63, ti65, ti24, ti3]
noncomputable def C_k7c : Cfg := mkC ty_k7c [] [] [] [] [1,2,4,5] [] []
theorem E_k7c : Env1 Tryz.prog C_k7c := mkC_ok (by kernel_rfl) trivial (by kernel_rfl)
theorem c_r11_Get : CIs (C_k7c) ty_k7c [] [] [] [] [] [1,2,4,5] [] [] [] [] := ⟨rfl, rfl, rfl, rfl, rfl, rfl, rfl, rfl, rfl, rfl, rfl⟩
structure L_k7c_0 where
  sender : Int
  i : Int
  s_ : Shard
  sender2 : Int
  base : Int
def an_k7c_0 : Ann := (mkAnn (σ := L_k7c_0) (lSkip vUnk <| lCons (vOne cI) <| lSkip (vOne (cPtr 0 0 0)) <| lSkip vUnk <| lSkip (vOne (cPtr 1 0 0)) <| lCons (vOne cI) <| K8 <| K8 <| lSkip vUnk <| lSkip vUnk <| lSkip vUnk <| lSkip vUnk <| lSkip vUnk <| lSkip vUnk <|  lNil) (lCons (oBox 63 (cStr ceShard)) <| lCons (oBox 65 (lCons cI <| lCons cI <| lSkip cNil <|  lNil)) <|  lNil)
  (fun a b => L_k7c_0.mk (a.1) (a.2.1) (b.1) (b.2.1.1) (b.2.1.2.1)) (fun s => (s.sender, s.i, ())) (fun s => (s.s_, (s.sender2, s.base, ()), ())) (fun a b => true) (fun _ _ _ => ⟨rfl, rfl⟩))
theorem an_k7c_0_c (C : Cfg) : an_k7c_0.c C = C := rfl
set_option maxRecDepth 100000 in
theorem an_k7c_0_st (s : an_k7c_0.σ) : an_k7c_0.st s = (toL 28 (.node (.node (.node (.node (.node (.node (.node (.node (.leaf (.unk)) (.leaf (.v (.one (.d (.sc (.int .i64 (L_k7c_0.sender s)))))))) (.node (.leaf (.v (.one (.ptr 0 0 0)))) (.leaf (.unk)))) (.node (.node (.leaf (.v (.one (.ptr 1 0 0)))) (.leaf (.v (.one (.d (.sc (.int .i64 (L_k7c_0.i s)))))))) (.leaf (.unk)))) (.leaf (.unk))) (.leaf (.unk))) (.leaf (.unk))) (.leaf (.unk))) (.leaf (.unk))), [.box 63 (ddv (Shard.c (L_k7c_0.s_ s))), .box 65 [.d (.sc (.int .i64 (L_k7c_0.sender2 s))), .d (.sc (.int .i64 (L_k7c_0.base s))), .nil]]) := rfl
set_option maxHeartbeats 4000000 in
set_option maxRecDepth 100000 in
theorem an_k7c_0_un {β : Type} (sender : Int) (i : Int) (p_s_ : List CV) (sender2 : Int) (base : Int) (f_ : an_k7c_0.σ → Option β) : (an_k7c_0.un (.unk :: .v (.one (.d (.sc (.int .i64 sender)))) :: .v (.one (.ptr 0 0 0)) :: .unk :: .v (.one (.ptr 1 0 0)) :: .v (.one (.d (.sc (.int .i64 i)))) :: U8 (U8 (.unk :: .unk :: .unk :: .unk :: .unk :: .unk :: []))) [.box 63 p_s_, .box 65 [.d (.sc (.int .i64 sender2)), .d (.sc (.int .i64 base)), .nil]]).bind f_ = ((allD p_s_).bind dShard).bind fun s_ => f_ (L_k7c_0.mk sender i s_ sender2 base) :=
  (mkAnn_un (σ := L_k7c_0) _ _ _ _ _ _ _ _ _ f_).trans (by simp (maxSteps := 10000000) [Option.bind_assoc, U8, U64, K8, K64])
def T_k7c : List (Nat × LoopA) := [(0, .ty an_k7c_0)]
set_option maxHeartbeats 20000000 in
set_option maxRecDepth 100000 in
noncomputable def pk_k7c : { F : Shard → Int → Option (Acc) // CallC Tryz.prog 31 (con2 (eT ceShard) eInt (fun x0 x1 => (F x0 x1).map (res1 (rAgg ceAcc)).enc)) } :=
  ⟨_, cc2 E_k7c Tryz.func31 rfl rfl (T := T_k7c) (G := []) (r := (res1 (rAgg ceAcc))) fun x0 x1 => by
    unfold Wf
    simp (maxSteps := 10000000) (implicitDefEqProofs := false) [ty_k7c, c_r11_Get, T_k7c, Tryz.f31, an_k7c_0_st, an_k7c_0_un, an_k7c_0_c, iC, uC, bC, sC, Acc.c, Shard.c, Tx.c]
    try rfl⟩
noncomputable def F_k7c : Shard → Int → Option (Acc) := pk_k7c.1
noncomputable def M_k7c : List DA → Option (List RV) := con2 (eT ceShard) eInt (fun x0 x1 => (F_k7c x0 x1).map (res1 (rAgg ceAcc)).enc)
theorem cc_k7c : CallC Tryz.prog 31 M_k7c := pk_k7c.2
theorem en_k80 : Enters Tryz.prog 35 := ⟨_, Tryz.func35, rfl, rfl⟩
def ty_k80 : List (Nat × TI) := [ti63, ti65, ti24, ti3]
noncomputable def C_k80 : Cfg := mkC ty_k80 [] [(68, M_k83)] [68] [(5, [(0, 65, 3)])] [2,3,4,5,6,7] [] []
theorem E_k80 : Env1 Tryz.prog C_k80 := mkC_ok (by kernel_rfl) (⟨⟨en_k83, cc_k83⟩, trivial⟩) (by kernel_rfl)
theorem c_r11_Set : CIs (C_k80) ty_k80 [] [(68, M_k83)] [68] [68] [(5, [(0, 65, 3)])] [2,3,4,5,6,7] [] [] [] [] := ⟨rfl, rfl, rfl, rfl, rfl, rfl, rfl, rfl, rfl, rfl, rfl⟩
structure L_k80_0 where
  laid : Bool
  i : Int
  s_ : Shard
  a_ : Acc
  version : Int
  out : List Acc
def an_k80_0 : Ann := (mkAnn (σ := L_k80_0) (lSkip vUnk <| lSkip vUnk <| lSkip (vOne (cPtr 0 0 0)) <| lSkip (vOne (cPtr 1 0 0)) <| lSkip (vOne (cPtr 2 0 0)) <| lCons (vOne (cOwn 3)) <| lCons (vOne cB) <| lCons (vOne cI) <| K8 <| K8 <| K8 <| K8 <| K8 <| K8 <| K8 <| lSkip vUnk <| lSkip vUnk <|  lNil) (lCons (oBox 63 (cStr ceShard)) <| lCons (oBox 65 (cStr ceAcc)) <| lCons (oBox 63 (lSkip cNil <| lCons cI <|  lNil)) <| lCons (oArr 65 3 ceAcc) <|  lNil)
  (fun a b => L_k80_0.mk (a.2.1) (a.2.2.1) (b.1) (b.2.1) (b.2.2.1.1) (b.2.2.2.1)) (fun s => (s.out.length, s.laid, s.i, ())) (fun s => (s.s_, s.a_, (s.version, ()), s.out, ())) (fun a b => decide (a.1 = (b.2.2.2.1).length)) (by rintro ⟨a0, a1, a2, _⟩ ⟨b0, b1, ⟨c2_0, _⟩, b3, _⟩ h; simp at h; simp [h]))
theorem an_k80_0_c (C : Cfg) : an_k80_0.c C = C := rfl
set_option maxRecDepth 100000 in
theorem an_k80_0_st (s : an_k80_0.σ) : an_k80_0.st s = (toL 66 (.node (.node (.node (.node (.node (.node (.node (.leaf (.unk)) (.node (.leaf (.v (.one (.ptr 0 0 0)))) (.leaf (.v (.one (.ptr 1 0 0)))))) (.node (.node (.leaf (.v (.one (.ptr 2 0 0)))) (.leaf (.v (.one (.own 3 (L_k80_0.out s).length))))) (.node (.leaf (.v (.one (.d (.sc (.bool (L_k80_0.laid s))))))) (.leaf (.v (.one (.d (.sc (.int .i64 (L_k80_0.i s)))))))))) (.leaf (.unk))) (.leaf (.unk))) (.leaf (.unk))) (.leaf (.unk))) (.leaf (.unk))), [.box 63 (ddv (Shard.c (L_k80_0.s_ s))), .box 65 (ddv (Acc.c (L_k80_0.a_ s))), .box 63 [.nil, .d (.sc (.int .i64 (L_k80_0.version s)))], .arr 65 3 ((L_k80_0.out s).map Acc.c)]) := rfl
set_option maxHeartbeats 4000000 in
set_option maxRecDepth 100000 in
theorem an_k80_0_un {β : Type} (m1_out : Nat) (laid : Bool) (i : Int) (p_s_ : List CV) (p_a_ : List CV) (version : Int) (p_out : List (List DV)) (f_ : an_k80_0.σ → Option β) : (an_k80_0.un (.unk :: .unk :: .v (.one (.ptr 0 0 0)) :: .v (.one (.ptr 1 0 0)) :: .v (.one (.ptr 2 0 0)) :: .v (.one (.own 3 m1_out)) :: .v (.one (.d (.sc (.bool laid)))) :: .v (.one (.d (.sc (.int .i64 i)))) :: U8 (U8 (U8 (U8 (U8 (U8 (U8 (.unk :: .unk :: [])))))))) [.box 63 p_s_, .box 65 p_a_, .box 63 [.nil, .d (.sc (.int .i64 version))], .arr 65 3 p_out]).bind f_ = ((allD p_s_).bind dShard).bind fun s_ => ((allD p_a_).bind dAcc).bind fun a_ => (decL dAcc p_out).bind fun out => (if m1_out = out.length then f_ (L_k80_0.mk laid i s_ a_ version out) else none) :=
  (mkAnn_un (σ := L_k80_0) _ _ _ _ _ _ _ _ _ f_).trans (by simp (maxSteps := 10000000) [Option.bind_assoc, U8, U64, K8, K64, bind_ite])
def T_k80 : List (Nat × LoopA) := [(0, .ty an_k80_0)]
set_option maxHeartbeats 20000000 in
set_option maxRecDepth 100000 in
noncomputable def pk_k80 : { F : Shard → Acc → Option (Shard) // CallC Tryz.prog 35 (con2 (eT ceShard) (eT ceAcc) (fun x0 x1 => (F x0 x1).map (res1 (rAgg ceShard)).enc)) } :=
  ⟨_, cc2 E_k80 Tryz.func35 rfl rfl (T := T_k80) (G := []) (r := (res1 (rAgg ceShard))) fun x0 x1 => by
    unfold Wf
    simp (maxSteps := 10000000) (implicitDefEqProofs := false) [ty_k80, c_r11_Set, T_k80, Tryz.f35, M_k83, an_k80_0_st, an_k80_0_un, an_k80_0_c, iC, uC, bC, sC, Acc.c, Shard.c, Tx.c]
    try rfl⟩
noncomputable def F_k80 : Shard → Acc → Option (Shard) := pk_k80.1
noncomputable def M_k80 : List DA → Option (List RV) := con2 (eT ceShard) (eT ceAcc) (fun x0 x1 => (F_k80 x0 x1).map (res1 (rAgg ceShard)).enc)
theorem cc_k80 : CallC Tryz.prog 35 M_k80 := pk_k80.2

end Go.Vm

/- What Go functions come to, as Lean functions: each with its contract. -/
set_option linter.unusedVariables false
set_option linter.unusedSimpArgs false
namespace Go.Vm
open Go Go.RowKit Go.Proofs
attribute [-simp] env0 envI evOps evOne evOp evIndexAddr evIndex evPick binV evLoad evStore loadC callV nilC storeC toDVs toDAs resRs
attribute [local simp] List.lookup List.replicate List.range_succ env0_tree envI_tree

theorem en_k1b : Enters Tryz.prog 133 := ⟨_, Tryz.func133, rfl, rfl⟩
def ty_k1b : List (Nat × TI) := [ti31, ti115, ti35, ti68]
noncomputable def C_k1b : Cfg := mkC ty_k1b [] [] [] [] [] [] [(1, [true, true, true, true, true, true, true, true, true, false, true, true, false])]
theorem E_k1b : Env1 Tryz.prog C_k1b := mkC_ok (by kernel_rfl) trivial (by kernel_rfl)
theorem c_kp_tell : CIs (C_k1b) ty_k1b [] [] [] [] [] [] [] [(1, [true, true, true, true, true, true, true, true, true, false, true, true, false])] [] [] := ⟨rfl, rfl, rfl, rfl, rfl, rfl, rfl, rfl, rfl, rfl, rfl⟩
noncomputable def I_k1b : List V1 → Objs → Option (TV × Objs) := Wi C_k1b [] [] Tryz.f133
theorem ic_k1b : InlC Tryz.prog 133 I_k1b := inlC_of_W E_k1b Tryz.func133 rfl rfl
theorem en_k13 : Enters Tryz.prog 87 := ⟨_, Tryz.func87, rfl, rfl⟩
def ty_k13 : List (Nat × TI) := [ti38, ti34, ti9, ti31, ti115, ti113, ti3, ti65, ti23, ti29, ti112]
noncomputable def C0_k13 : Cfg := mkC ty_k13 [] [(74, M_kcf), (131, M_ka8), (116, M_k55), (63, M_kad), (108, M_k54), (117, M_k56), (132, M_kaa)] [74, 116, 63, 108, 133] [] [4] [] [(4, [true, true, true, true, true, true, true, false, false]), (5, [true, true, true, true, true, true, true, true, true, true, true, true, false, true, true, true, true, true]), (6, [true, true, true, true, true, true, true, true, true, true, true, true, true, true, true, true, true]), (14, [true, true, true, true, true, true, true, true, false, true, true, false])]
noncomputable def C_k13 : Cfg := mkI C0_k13 [(133, I_k1b)]
theorem E0_k13 : Env1 Tryz.prog C0_k13 := mkC_ok (by kernel_rfl) (⟨⟨en_kcf, cc_kcf⟩, ⟨⟨en_ka8, cc_ka8⟩, ⟨⟨en_k55, cc_k55⟩, ⟨⟨en_kad, cc_kad⟩, ⟨⟨en_k54, cc_k54⟩, ⟨⟨en_k56, cc_k56⟩, ⟨⟨en_kaa, cc_kaa⟩, trivial⟩⟩⟩⟩⟩⟩⟩) (by kernel_rfl)
theorem E_k13 : Env1 Tryz.prog C_k13 := mkI_ok E0_k13 (⟨⟨en_k1b, ic_k1b⟩, trivial⟩)
theorem c_kp_add : CIs (C_k13) ty_k13 [] [(74, M_kcf), (131, M_ka8), (116, M_k55), (63, M_kad), (108, M_k54), (117, M_k56), (132, M_kaa)] [74, 131, 116, 63, 108, 117, 132] [74, 116, 63, 108, 133] [] [4] [] [(4, [true, true, true, true, true, true, true, false, false]), (5, [true, true, true, true, true, true, true, true, true, true, true, true, false, true, true, true, true, true]), (6, [true, true, true, true, true, true, true, true, true, true, true, true, true, true, true, true, true]), (14, [true, true, true, true, true, true, true, true, false, true, true, false])] [] [133] := ⟨rfl, rfl, rfl, rfl, rfl, rfl, rfl, rfl, rfl, rfl, rfl⟩
theorem ci_kp_add : CIl C_k13 [(133, I_k1b)] := rfl
noncomputable def I_k13 : List V1 → Objs → Option (TV × Objs) := Wi C_k13 [] [] Tryz.f87
theorem ic_k13 : InlC Tryz.prog 87 I_k13 := inlC_of_W E_k13 Tryz.func87 rfl rfl
theorem en_k16 : Enters Tryz.prog 134 := ⟨_, Tryz.func134, rfl, rfl⟩
def ty_k16 : List (Nat × TI) := [ti31, ti34, ti115, ti113, ti3, ti65, ti112]
noncomputable def C0_k16 : Cfg := mkC ty_k16 [] [(131, M_ka8), (110, M_k52), (132, M_kaa)] [133] [] [4] [] [(1, [true, true, true, true, true, true, true, true, true, true, true, true, true, true, true, false, true, true, false])]
noncomputable def C_k16 : Cfg := mkI C0_k16 [(133, I_k1b)]
theorem E0_k16 : Env1 Tryz.prog C0_k16 := mkC_ok (by kernel_rfl) (⟨⟨en_ka8, cc_ka8⟩, ⟨⟨en_k52, cc_k52⟩, ⟨⟨en_kaa, cc_kaa⟩, trivial⟩⟩⟩) (by kernel_rfl)
theorem E_k16 : Env1 Tryz.prog C_k16 := mkI_ok E0_k16 (⟨⟨en_k1b, ic_k1b⟩, trivial⟩)
theorem c_kp_drop : CIs (C_k16) ty_k16 [] [(131, M_ka8), (110, M_k52), (132, M_kaa)] [131, 110, 132] [133] [] [4] [] [(1, [true, true, true, true, true, true, true, true, true, true, true, true, true, true, true, false, true, true, false])] [] [133] := ⟨rfl, rfl, rfl, rfl, rfl, rfl, rfl, rfl, rfl, rfl, rfl⟩
theorem ci_kp_drop : CIl C_k16 [(133, I_k1b)] := rfl
noncomputable def I_k16 : List V1 → Objs → Option (TV × Objs) := Wi C_k16 [] [] Tryz.f134
theorem ic_k16 : InlC Tryz.prog 134 I_k16 := inlC_of_W E_k16 Tryz.func134 rfl rfl
theorem en_k18 : Enters Tryz.prog 90 := ⟨_, Tryz.func90, rfl, rfl⟩
def ty_k18 : List (Nat × TI) := [ti38, ti34, ti115, ti113, ti3, ti65, ti31]
noncomputable def C_k18 : Cfg := mkC ty_k18 [] [(131, M_ka8), (108, M_k54)] [108] [] [4] [] [(1, [true, true, true, true, true, true, true, true, true, true, true, true, true, false, false, true])]
theorem E_k18 : Env1 Tryz.prog C_k18 := mkC_ok (by kernel_rfl) (⟨⟨en_ka8, cc_ka8⟩, ⟨⟨en_k54, cc_k54⟩, trivial⟩⟩) (by kernel_rfl)
theorem c_kp_get : CIs (C_k18) ty_k18 [] [(131, M_ka8), (108, M_k54)] [131, 108] [108] [] [4] [] [(1, [true, true, true, true, true, true, true, true, true, true, true, true, true, false, false, true])] [] [] := ⟨rfl, rfl, rfl, rfl, rfl, rfl, rfl, rfl, rfl, rfl, rfl⟩
noncomputable def I_k18 : List V1 → Objs → Option (TV × Objs) := Wi C_k18 [] [] Tryz.f90
theorem ic_k18 : InlC Tryz.prog 90 I_k18 := inlC_of_W E_k18 Tryz.func90 rfl rfl
theorem en_k19 : Enters Tryz.prog 88 := ⟨_, Tryz.func88, rfl, rfl⟩
def ty_k19 : List (Nat × TI) := [ti38, ti34, ti112, ti29, ti31]
noncomputable def C0_k19 : Cfg := mkC ty_k19 [] [] [] [] [4] [] []
noncomputable def C_k19 : Cfg := mkI C0_k19 [(90, I_k18), (134, I_k16)]
theorem E0_k19 : Env1 Tryz.prog C0_k19 := mkC_ok (by kernel_rfl) trivial (by kernel_rfl)
theorem E_k19 : Env1 Tryz.prog C_k19 := mkI_ok E0_k19 (⟨⟨en_k18, ic_k18⟩, ⟨⟨en_k16, ic_k16⟩, trivial⟩⟩)
theorem c_kp_remove : CIs (C_k19) ty_k19 [] [] [] [] [] [4] [] [] [] [90, 134] := ⟨rfl, rfl, rfl, rfl, rfl, rfl, rfl, rfl, rfl, rfl, rfl⟩
theorem ci_kp_remove : CIl C_k19 [(90, I_k18), (134, I_k16)] := rfl
noncomputable def I_k19 : List V1 → Objs → Option (TV × Objs) := Wi C_k19 [] [] Tryz.f88
theorem ic_k19 : InlC Tryz.prog 88 I_k19 := inlC_of_W E_k19 Tryz.func88 rfl rfl
theorem en_k14 : Enters Tryz.prog 89 := ⟨_, Tryz.func89, rfl, rfl⟩
def ty_k14 : List (Nat × TI) := [ti38, ti34, ti3, ti115, ti113, ti65, ti29, ti32, ti31, ti112]
noncomputable def C0_k14 : Cfg := mkC ty_k14 [] [(60, M_k4c), (131, M_ka8), (118, M_k50), (132, M_kaa)] [60, 133] [] [0,4,6,42,43,44] [] [(3, [true, true, true, true, true, true, true, true, true, true, true, true, true, true, false, false, true, true]), (6, [true, true, true, true, true, true, false, true, true, false])]
noncomputable def C_k14 : Cfg := mkI C0_k14 [(133, I_k1b)]
theorem E0_k14 : Env1 Tryz.prog C0_k14 := mkC_ok (by kernel_rfl) (⟨⟨en_k4c, cc_k4c⟩, ⟨⟨en_ka8, cc_ka8⟩, ⟨⟨en_k50, cc_k50⟩, ⟨⟨en_kaa, cc_kaa⟩, trivial⟩⟩⟩⟩) (by kernel_rfl)
theorem E_k14 : Env1 Tryz.prog C_k14 := mkI_ok E0_k14 (⟨⟨en_k1b, ic_k1b⟩, trivial⟩)
theorem c_kp_advance : CIs (C_k14) ty_k14 [] [(60, M_k4c), (131, M_ka8), (118, M_k50), (132, M_kaa)] [60, 131, 118, 132] [60, 133] [] [0,4,6,42,43,44] [] [(3, [true, true, true, true, true, true, true, true, true, true, true, true, true, true, false, false, true, true]), (6, [true, true, true, true, true, true, false, true, true, false])] [] [133] := ⟨rfl, rfl, rfl, rfl, rfl, rfl, rfl, rfl, rfl, rfl, rfl⟩
theorem ci_kp_advance : CIl C_k14 [(133, I_k1b)] := rfl
structure L_k14_0 where
  gone : List Tx
  v42 : List Tx
  v43 : Int
  v44 : Int
  o0 : Config
  o2 : List Acc
  err : Int
  tx_sender : Int
  tx_nonce : Int
  tx_tip : Int
  tx_cap : Int
  tx_gas : Int
  tx_data : ByteArray
  slots : Int
  o4 : List Event
  o5 : List Event
  c_shards : Int
  c_soft : Int
  c_hard : Int
  c_per : Int
  c_bump : Int
  c_feed : Int
  c_workers : Int
  c_room : Int
  s_accounts : List Acc
  s_version : Int
  o8 : Op
  err2 : Int
  tx_sender2 : Int
  tx_nonce2 : Int
  tx_tip2 : Int
  tx_cap2 : Int
  tx_gas2 : Int
  tx_data2 : ByteArray
  slots2 : Int
  o10 : Acc
def an_k14_0 : Ann := (mkAnn (σ := L_k14_0) (lSkip (vOne (cPtr 6 0 0)) <| lSkip vUnk <| lSkip vUnk <| lSkip vUnk <| lSkip (vOne (cPtr 9 0 0)) <| lSkip vUnk <| lCons (vOne (cSl ceTx)) <| K8 <| K8 <| K8 <| K8 <| lSkip vUnk <| lSkip vUnk <| lSkip vUnk <| lCons (vOne (cSl ceTx)) <| lCons (vOne cI) <| lCons (vOne cI) <| K8 <| lSkip vUnk <|  lNil) (lCons (oBox 23 (cStr ceConfig)) <| lSkip oNil <| lCons (oArr 65 3 ceAcc) <| lCons (oBox 34 (lCons cI <| lCons cI <| lCons cI <| lCons cI <| lCons cI <| lCons cI <| lCons cS <| lSkip cNil <| lCons cI <|  lNil)) <| lCons (oArr 68 8 ceEvent) <| lCons (oArr 68 8 ceEvent) <| lCons (oBox 115 (lCons cI <| lCons cI <| lCons cI <| lCons cI <| lCons cI <| lCons cI <| lCons cI <| lCons cI <| lCons (cSl ceAcc) <| lCons cI <| lCons (cOwn 5) <|  lNil)) <| lSkip (oTab [(0, .clo 87 [(6, 0)] []), (1, .clo 88 [(6, 0)] []), (2, .clo 89 [(6, 0)] []), (3, .clo 90 [(6, 0)] []), (4, .clo 91 [(6, 0)] []), (5, .clo 92 [(6, 0)] []), (6, .clo 93 [(6, 0)] [])]) <| lCons (oBox 38 (cStr ceOp)) <| lCons (oBox 34 (lCons cI <| lCons cI <| lCons cI <| lCons cI <| lCons cI <| lCons cI <| lCons cS <| lSkip cNil <| lCons cI <|  lNil)) <| lCons (oBox 65 (cStr ceAcc)) <|  lNil)
  (fun a b => L_k14_0.mk (a.1) (a.2.1) (a.2.2.1) (a.2.2.2.1) (b.1) (b.2.1) (b.2.2.1.1) (b.2.2.1.2.1) (b.2.2.1.2.2.1) (b.2.2.1.2.2.2.1) (b.2.2.1.2.2.2.2.1) (b.2.2.1.2.2.2.2.2.1) (b.2.2.1.2.2.2.2.2.2.1) (b.2.2.1.2.2.2.2.2.2.2.1) (b.2.2.2.1) (b.2.2.2.2.1) (b.2.2.2.2.2.1.1) (b.2.2.2.2.2.1.2.1) (b.2.2.2.2.2.1.2.2.1) (b.2.2.2.2.2.1.2.2.2.1) (b.2.2.2.2.2.1.2.2.2.2.1) (b.2.2.2.2.2.1.2.2.2.2.2.1) (b.2.2.2.2.2.1.2.2.2.2.2.2.1) (b.2.2.2.2.2.1.2.2.2.2.2.2.2.1) (b.2.2.2.2.2.1.2.2.2.2.2.2.2.2.1) (b.2.2.2.2.2.1.2.2.2.2.2.2.2.2.2.1) (b.2.2.2.2.2.2.1) (b.2.2.2.2.2.2.2.1.1) (b.2.2.2.2.2.2.2.1.2.1) (b.2.2.2.2.2.2.2.1.2.2.1) (b.2.2.2.2.2.2.2.1.2.2.2.1) (b.2.2.2.2.2.2.2.1.2.2.2.2.1) (b.2.2.2.2.2.2.2.1.2.2.2.2.2.1) (b.2.2.2.2.2.2.2.1.2.2.2.2.2.2.1) (b.2.2.2.2.2.2.2.1.2.2.2.2.2.2.2.1) (b.2.2.2.2.2.2.2.2.1)) (fun s => (s.gone, s.v42, s.v43, s.v44, ())) (fun s => (s.o0, s.o2, (s.err, s.tx_sender, s.tx_nonce, s.tx_tip, s.tx_cap, s.tx_gas, s.tx_data, s.slots, ()), s.o4, s.o5, (s.c_shards, s.c_soft, s.c_hard, s.c_per, s.c_bump, s.c_feed, s.c_workers, s.c_room, s.s_accounts, s.s_version, s.o5.length, ()), s.o8, (s.err2, s.tx_sender2, s.tx_nonce2, s.tx_tip2, s.tx_cap2, s.tx_gas2, s.tx_data2, s.slots2, ()), s.o10, ())) (fun a b => decide (b.2.2.2.2.2.1.2.2.2.2.2.2.2.2.2.2.1 = (b.2.2.2.2.1).length)) (by rintro ⟨a0, a1, a2, a3, _⟩ ⟨b0, b1, ⟨c2_0, c2_1, c2_2, c2_3, c2_4, c2_5, c2_6, c2_7, _⟩, b3, b4, ⟨c5_0, c5_1, c5_2, c5_3, c5_4, c5_5, c5_6, c5_7, c5_8, c5_9, c5_10, _⟩, b6, ⟨c7_0, c7_1, c7_2, c7_3, c7_4, c7_5, c7_6, c7_7, _⟩, b8, _⟩ h; simp at h; simp [h]))
theorem an_k14_0_c (C : Cfg) : an_k14_0.c C = C := rfl
set_option maxRecDepth 100000 in
theorem an_k14_0_st (s : an_k14_0.σ) : an_k14_0.st s = (toL 54 (.node (.node (.node (.node (.node (.node (.node (.node (.leaf (.v (.one (.ptr 6 0 0)))) (.leaf (.unk))) (.leaf (.unk))) (.node (.node (.leaf (.v (.one (.ptr 9 0 0)))) (.leaf (.unk))) (.node (.leaf (.v (.one (.d (.sl ((L_k14_0.gone s).map Tx.c)))))) (.leaf (.unk))))) (.leaf (.unk))) (.leaf (.unk))) (.node (.node (.leaf (.unk)) (.node (.node (.leaf (.unk)) (.node (.leaf (.v (.one (.d (.sl ((L_k14_0.v42 s).map Tx.c)))))) (.leaf (.v (.one (.d (.sc (.int .i64 (L_k14_0.v43 s))))))))) (.node (.node (.leaf (.v (.one (.d (.sc (.int .i64 (L_k14_0.v44 s))))))) (.leaf (.unk))) (.leaf (.unk))))) (.leaf (.unk)))) (.leaf (.unk))) (.leaf (.unk))), [.box 23 (ddv (Config.c (L_k14_0.o0 s))), .nil, .arr 65 3 ((L_k14_0.o2 s).map Acc.c), .box 34 [.d (.sc (.int .i64 (L_k14_0.err s))), .d (.sc (.int .i64 (L_k14_0.tx_sender s))), .d (.sc (.int .i64 (L_k14_0.tx_nonce s))), .d (.sc (.int .i64 (L_k14_0.tx_tip s))), .d (.sc (.int .i64 (L_k14_0.tx_cap s))), .d (.sc (.int .i64 (L_k14_0.tx_gas s))), .d (.sc (.string (L_k14_0.tx_data s))), .nil, .d (.sc (.int .i64 (L_k14_0.slots s)))], .arr 68 8 ((L_k14_0.o4 s).map Event.c), .arr 68 8 ((L_k14_0.o5 s).map Event.c), .box 115 [.d (.sc (.int .i64 (L_k14_0.c_shards s))), .d (.sc (.int .i64 (L_k14_0.c_soft s))), .d (.sc (.int .i64 (L_k14_0.c_hard s))), .d (.sc (.int .i64 (L_k14_0.c_per s))), .d (.sc (.int .i64 (L_k14_0.c_bump s))), .d (.sc (.int .i64 (L_k14_0.c_feed s))), .d (.sc (.int .i64 (L_k14_0.c_workers s))), .d (.sc (.int .i64 (L_k14_0.c_room s))), .d (.sl ((L_k14_0.s_accounts s).map Acc.c)), .d (.sc (.int .i64 (L_k14_0.s_version s))), .own 5 (L_k14_0.o5 s).length], .tab [(0, .clo 87 [(6, 0)] []), (1, .clo 88 [(6, 0)] []), (2, .clo 89 [(6, 0)] []), (3, .clo 90 [(6, 0)] []), (4, .clo 91 [(6, 0)] []), (5, .clo 92 [(6, 0)] []), (6, .clo 93 [(6, 0)] [])], .box 38 (ddv (Op.c (L_k14_0.o8 s))), .box 34 [.d (.sc (.int .i64 (L_k14_0.err2 s))), .d (.sc (.int .i64 (L_k14_0.tx_sender2 s))), .d (.sc (.int .i64 (L_k14_0.tx_nonce2 s))), .d (.sc (.int .i64 (L_k14_0.tx_tip2 s))), .d (.sc (.int .i64 (L_k14_0.tx_cap2 s))), .d (.sc (.int .i64 (L_k14_0.tx_gas2 s))), .d (.sc (.string (L_k14_0.tx_data2 s))), .nil, .d (.sc (.int .i64 (L_k14_0.slots2 s)))], .box 65 (ddv (Acc.c (L_k14_0.o10 s)))]) := rfl
set_option maxHeartbeats 4000000 in
set_option maxRecDepth 100000 in
theorem an_k14_0_un {β : Type} (p_gone : List (List DV)) (p_v42 : List (List DV)) (v43 : Int) (v44 : Int) (p_o0 : List CV) (p_o2 : List (List DV)) (err : Int) (tx_sender : Int) (tx_nonce : Int) (tx_tip : Int) (tx_cap : Int) (tx_gas : Int) (tx_data : ByteArray) (slots : Int) (p_o4 : List (List DV)) (p_o5 : List (List DV)) (c_shards : Int) (c_soft : Int) (c_hard : Int) (c_per : Int) (c_bump : Int) (c_feed : Int) (c_workers : Int) (c_room : Int) (p_s_accounts : List (List DV)) (s_version : Int) (m1_o5 : Nat) (p_o8 : List CV) (err2 : Int) (tx_sender2 : Int) (tx_nonce2 : Int) (tx_tip2 : Int) (tx_cap2 : Int) (tx_gas2 : Int) (tx_data2 : ByteArray) (slots2 : Int) (p_o10 : List CV) (f_ : an_k14_0.σ → Option β) : (an_k14_0.un (.v (.one (.ptr 6 0 0)) :: .unk :: .unk :: .unk :: .v (.one (.ptr 9 0 0)) :: .unk :: .v (.one (.d (.sl p_gone))) :: U8 (U8 (U8 (U8 (.unk :: .unk :: .unk :: .v (.one (.d (.sl p_v42))) :: .v (.one (.d (.sc (.int .i64 v43)))) :: .v (.one (.d (.sc (.int .i64 v44)))) :: U8 (.unk :: [])))))) [.box 23 p_o0, .nil, .arr 65 3 p_o2, .box 34 [.d (.sc (.int .i64 err)), .d (.sc (.int .i64 tx_sender)), .d (.sc (.int .i64 tx_nonce)), .d (.sc (.int .i64 tx_tip)), .d (.sc (.int .i64 tx_cap)), .d (.sc (.int .i64 tx_gas)), .d (.sc (.string tx_data)), .nil, .d (.sc (.int .i64 slots))], .arr 68 8 p_o4, .arr 68 8 p_o5, .box 115 [.d (.sc (.int .i64 c_shards)), .d (.sc (.int .i64 c_soft)), .d (.sc (.int .i64 c_hard)), .d (.sc (.int .i64 c_per)), .d (.sc (.int .i64 c_bump)), .d (.sc (.int .i64 c_feed)), .d (.sc (.int .i64 c_workers)), .d (.sc (.int .i64 c_room)), .d (.sl p_s_accounts), .d (.sc (.int .i64 s_version)), .own 5 m1_o5], .tab [(0, .clo 87 [(6, 0)] []), (1, .clo 88 [(6, 0)] []), (2, .clo 89 [(6, 0)] []), (3, .clo 90 [(6, 0)] []), (4, .clo 91 [(6, 0)] []), (5, .clo 92 [(6, 0)] []), (6, .clo 93 [(6, 0)] [])], .box 38 p_o8, .box 34 [.d (.sc (.int .i64 err2)), .d (.sc (.int .i64 tx_sender2)), .d (.sc (.int .i64 tx_nonce2)), .d (.sc (.int .i64 tx_tip2)), .d (.sc (.int .i64 tx_cap2)), .d (.sc (.int .i64 tx_gas2)), .d (.sc (.string tx_data2)), .nil, .d (.sc (.int .i64 slots2))], .box 65 p_o10]).bind f_ = (decL dTx p_gone).bind fun gone => (decL dTx p_v42).bind fun v42 => ((allD p_o0).bind dConfig).bind fun o0 => (decL dAcc p_o2).bind fun o2 => (decL dEvent p_o4).bind fun o4 => (decL dEvent p_o5).bind fun o5 => (decL dAcc p_s_accounts).bind fun s_accounts => ((allD p_o8).bind dOp).bind fun o8 => ((allD p_o10).bind dAcc).bind fun o10 => (if m1_o5 = o5.length then f_ (L_k14_0.mk gone v42 v43 v44 o0 o2 err tx_sender tx_nonce tx_tip tx_cap tx_gas tx_data slots o4 o5 c_shards c_soft c_hard c_per c_bump c_feed c_workers c_room s_accounts s_version o8 err2 tx_sender2 tx_nonce2 tx_tip2 tx_cap2 tx_gas2 tx_data2 slots2 o10) else none) :=
  (mkAnn_un (σ := L_k14_0) _ _ _ _ _ _ _ _ _ f_).trans (by simp (maxSteps := 10000000) [Option.bind_assoc, U8, U64, K8, K64, bind_ite])
def T_k14 : List (Nat × LoopA) := [(0, .tr an_k14_0)]
noncomputable def I_k14 : List V1 → Objs → Option (TV × Objs) := Wi C_k14 T_k14 [] Tryz.f89
theorem ic_k14 : InlC Tryz.prog 89 I_k14 := inlC_of_W E_k14 Tryz.func89 rfl rfl
theorem en_k15 : Enters Tryz.prog 53 := ⟨_, Tryz.func53, rfl, rfl⟩
def ty_k15 : List (Nat × TI) := [ti118, ti3]
noncomputable def C_k15 : Cfg := mkC ty_k15 [] [] [] [] [2] [] []
theorem E_k15 : Env1 Tryz.prog C_k15 := mkC_ok (by kernel_rfl) trivial (by kernel_rfl)
theorem c_kp_does : CIs (C_k15) ty_k15 [] [] [] [] [] [2] [] [] [] [] := ⟨rfl, rfl, rfl, rfl, rfl, rfl, rfl, rfl, rfl, rfl, rfl⟩
noncomputable def I_k15 : List V1 → Objs → Option (TV × Objs) := Wi C_k15 [] [] Tryz.f53
theorem ic_k15 : InlC Tryz.prog 53 I_k15 := inlC_of_W E_k15 Tryz.func53 rfl rfl
theorem en_k49 : Enters Tryz.prog 14 := ⟨_, Tryz.func14, rfl, rfl⟩
def ty_k49 : List (Nat × TI) := [ti23, ti38, ti24, ti34, ti35, ti113, ti115, ti112, ti3, ti118, ti65, ti68]
noncomputable def C0_k49 : Cfg := mkP (mkC ty_k49 [] [(21, M_k47)] [21] [(6, [(0, 65, 3)]), (8, [(0, 68, 8)]), (16, [(10, 68, 8)])] [] [] [(2, [true, false, true, true, false, true, true, true, true, true]), (6, [true, true, true, true, true, true, true, true, true, true, true, false, true])]) [(2, [5]), (6, [9, 12])]
noncomputable def C_k49 : Cfg := mkI C0_k49 [(53, I_k15), (87, I_k13), (88, I_k19), (89, I_k14), (90, I_k18)]
theorem E0_k49 : Env1 Tryz.prog C0_k49 := mkP_ok (mkC_ok (by kernel_rfl) (⟨⟨en_k47, cc_k47⟩, trivial⟩) (by kernel_rfl))
theorem E_k49 : Env1 Tryz.prog C_k49 := mkI_ok E0_k49 (⟨⟨en_k15, ic_k15⟩, ⟨⟨en_k13, ic_k13⟩, ⟨⟨en_k19, ic_k19⟩, ⟨⟨en_k14, ic_k14⟩, ⟨⟨en_k18, ic_k18⟩, trivial⟩⟩⟩⟩⟩)
theorem c_pool_Do : CIs (C_k49) ty_k49 [] [(21, M_k47)] [21] [21] [(6, [(0, 65, 3)]), (8, [(0, 68, 8)]), (16, [(10, 68, 8)])] [] [] [(2, [true, false, true, true, false, true, true, true, true, true]), (6, [true, true, true, true, true, true, true, true, true, true, true, false, true])] [(2, [5]), (6, [9, 12])] [53, 87, 88, 89, 90] := ⟨rfl, rfl, rfl, rfl, rfl, rfl, rfl, rfl, rfl, rfl, rfl⟩
theorem ci_pool_Do : CIl C_k49 [(53, I_k15), (87, I_k13), (88, I_k19), (89, I_k14), (90, I_k18)] := rfl
noncomputable def F_k49 : Config → (List Acc) → Op → Option ((List Acc) × Result × (List Event)) := fun x0 x1 x2 => Wfn C_k49 [] [] Tryz.f14 (res3 (rSl ceAcc) (rAgg ceResult) (rSl ceEvent)) [(eT ceConfig).enc x0, (eL ceAcc).enc x1, (eT ceOp).enc x2]
noncomputable def M_k49 : List DA → Option (List RV) := con3 (eT ceConfig) (eL ceAcc) (eT ceOp) (fun x0 x1 x2 => (F_k49 x0 x1 x2).map (res3 (rSl ceAcc) (rAgg ceResult) (rSl ceEvent)).enc)
set_option maxRecDepth 100000 in
theorem cc_k49 : CallC Tryz.prog 14 M_k49 := cc3 E_k49 Tryz.func14 rfl rfl (T := []) (G := []) (r := (res3 (rSl ceAcc) (rAgg ceResult) (rSl ceEvent))) fun x0 x1 x2 => by unfold F_k49; exact Wfn_eq rfl
set_option maxHeartbeats 20000000 in
set_option maxRecDepth 100000 in
noncomputable def w_pool_Do_k0 : { R : Config → (List Acc) → Op → Option ((List Acc) × Result × (List Event)) // ∀ (x0 : Config) (x1 : (List Acc)) (x2 : Op) (hc : F_k47 x0 x1 = some true) (hk : x2.kind = 0), F_k49 x0 x1 x2 = R x0 x1 x2 } := ⟨_, fun x0 x1 x2 hc hk => by
    unfold F_k49 Wfn
    simp only [Tryz.f14]
    unfold Wf
    simp (maxSteps := 10000000) (implicitDefEqProofs := false) [ty_k49, c_pool_Do, ci_pool_Do, Tryz.f14, M_k47, iC, uC, bC, sC, Acc.c, Config.c, Event.c, Op.c, Result.c, Shard.c, Tx.c, ty_k15, c_kp_does, Tryz.f53, I_k15, Wi, ty_k13, c_kp_add, ci_kp_add, Tryz.f87, M_kcf, M_ka8, M_k55, M_kad, M_k54, M_k56, M_kaa, ty_k1b, c_kp_tell, Tryz.f133, I_k1b, mkI, I_k13, ty_k19, c_kp_remove, ci_kp_remove, Tryz.f88, ty_k18, c_kp_get, Tryz.f90, I_k18, ty_k16, c_kp_drop, ci_kp_drop, Tryz.f134, M_k52, I_k16, I_k19, ty_k14, c_kp_advance, ci_kp_advance, T_k14, Tryz.f89, M_k4c, M_k50, an_k14_0_st, an_k14_0_un, an_k14_0_c, I_k14, mkI, hc, hk]
    try rfl⟩
set_option maxHeartbeats 20000000 in
set_option maxRecDepth 100000 in
noncomputable def w_pool_Do_k1 : { R : Config → (List Acc) → Op → Option ((List Acc) × Result × (List Event)) // ∀ (x0 : Config) (x1 : (List Acc)) (x2 : Op) (hc : F_k47 x0 x1 = some true) (hk : x2.kind = 1), F_k49 x0 x1 x2 = R x0 x1 x2 } := ⟨_, fun x0 x1 x2 hc hk => by
    unfold F_k49 Wfn
    simp only [Tryz.f14]
    unfold Wf
    simp (maxSteps := 10000000) (implicitDefEqProofs := false) [ty_k49, c_pool_Do, ci_pool_Do, Tryz.f14, M_k47, iC, uC, bC, sC, Acc.c, Config.c, Event.c, Op.c, Result.c, Shard.c, Tx.c, ty_k15, c_kp_does, Tryz.f53, I_k15, Wi, ty_k13, c_kp_add, ci_kp_add, Tryz.f87, M_kcf, M_ka8, M_k55, M_kad, M_k54, M_k56, M_kaa, ty_k1b, c_kp_tell, Tryz.f133, I_k1b, mkI, I_k13, ty_k19, c_kp_remove, ci_kp_remove, Tryz.f88, ty_k18, c_kp_get, Tryz.f90, I_k18, ty_k16, c_kp_drop, ci_kp_drop, Tryz.f134, M_k52, I_k16, I_k19, ty_k14, c_kp_advance, ci_kp_advance, T_k14, Tryz.f89, M_k4c, M_k50, an_k14_0_st, an_k14_0_un, an_k14_0_c, I_k14, mkI, hc, hk]
    try rfl⟩
set_option maxHeartbeats 20000000 in
set_option maxRecDepth 100000 in
noncomputable def w_pool_Do_k2 : { R : Config → (List Acc) → Op → Option ((List Acc) × Result × (List Event)) // ∀ (x0 : Config) (x1 : (List Acc)) (x2 : Op) (hc : F_k47 x0 x1 = some true) (hk : x2.kind = 2), F_k49 x0 x1 x2 = R x0 x1 x2 } := ⟨_, fun x0 x1 x2 hc hk => by
    unfold F_k49 Wfn
    simp only [Tryz.f14]
    unfold Wf
    simp (maxSteps := 10000000) (implicitDefEqProofs := false) [ty_k49, c_pool_Do, ci_pool_Do, Tryz.f14, M_k47, iC, uC, bC, sC, Acc.c, Config.c, Event.c, Op.c, Result.c, Shard.c, Tx.c, ty_k15, c_kp_does, Tryz.f53, I_k15, Wi, ty_k13, c_kp_add, ci_kp_add, Tryz.f87, M_kcf, M_ka8, M_k55, M_kad, M_k54, M_k56, M_kaa, ty_k1b, c_kp_tell, Tryz.f133, I_k1b, mkI, I_k13, ty_k19, c_kp_remove, ci_kp_remove, Tryz.f88, ty_k18, c_kp_get, Tryz.f90, I_k18, ty_k16, c_kp_drop, ci_kp_drop, Tryz.f134, M_k52, I_k16, I_k19, ty_k14, c_kp_advance, ci_kp_advance, T_k14, Tryz.f89, M_k4c, M_k50, an_k14_0_st, an_k14_0_un, an_k14_0_c, I_k14, mkI, hc, hk]
    try rfl⟩
set_option maxHeartbeats 20000000 in
set_option maxRecDepth 100000 in
noncomputable def w_pool_Do_k3 : { R : Config → (List Acc) → Op → Option ((List Acc) × Result × (List Event)) // ∀ (x0 : Config) (x1 : (List Acc)) (x2 : Op) (hc : F_k47 x0 x1 = some true) (hk : x2.kind = 3), F_k49 x0 x1 x2 = R x0 x1 x2 } := ⟨_, fun x0 x1 x2 hc hk => by
    unfold F_k49 Wfn
    simp only [Tryz.f14]
    unfold Wf
    simp (maxSteps := 10000000) (implicitDefEqProofs := false) [ty_k49, c_pool_Do, ci_pool_Do, Tryz.f14, M_k47, iC, uC, bC, sC, Acc.c, Config.c, Event.c, Op.c, Result.c, Shard.c, Tx.c, ty_k15, c_kp_does, Tryz.f53, I_k15, Wi, ty_k13, c_kp_add, ci_kp_add, Tryz.f87, M_kcf, M_ka8, M_k55, M_kad, M_k54, M_k56, M_kaa, ty_k1b, c_kp_tell, Tryz.f133, I_k1b, mkI, I_k13, ty_k19, c_kp_remove, ci_kp_remove, Tryz.f88, ty_k18, c_kp_get, Tryz.f90, I_k18, ty_k16, c_kp_drop, ci_kp_drop, Tryz.f134, M_k52, I_k16, I_k19, ty_k14, c_kp_advance, ci_kp_advance, T_k14, Tryz.f89, M_k4c, M_k50, an_k14_0_st, an_k14_0_un, an_k14_0_c, I_k14, mkI, hc, hk]
    try rfl⟩

end Go.Vm
