/- What Go functions come to, as Lean functions: each with its contract. -/
import Derived.Test.YtaidpcnnggknnaaGreatYa
import Derived.Test.YtaidpcnnggknnaaGreatWa
import Derived.Test.YtaidpcnnggknnaaGreatVd
import Derived.Test.YtaidpcnnggknnaaGreatProg

set_option linter.unusedVariables false
set_option linter.unusedSimpArgs false
namespace Go.Vm
open Go Go.RowKit Go.Proofs
attribute [-simp] env0 envI evOps evOne evOp evIndexAddr evIndex evPick binV evLoad evStore loadC callV nilC storeC toDVs toDAs resRs
attribute [local simp] List.lookup List.replicate List.range_succ env0_tree envI_tree

theorem en_ka7 : Enters Tryz.prog 122 := ⟨_, Tryz.func122, rfl, rfl⟩
def ty_ka7 : List (Nat × TI) := [ti113, ti23, ti3, ti24, ti65]
noncomputable def C_ka7 : Cfg := mkC ty_ka7 [] [(61, M_k51), (154, M_kaf), (123, M_k0b)] [61, 154, 123] [] [1,5,7,19,20,21] [] []
theorem E_ka7 : Env1 Tryz.prog C_ka7 := mkC_ok (by kernel_rfl) (⟨⟨en_k51, cc_k51⟩, ⟨⟨en_kaf, cc_kaf⟩, ⟨⟨en_k0b, cc_k0b⟩, trivial⟩⟩⟩) (by kernel_rfl)
theorem c_shard_Check : CIs (C_ka7) ty_ka7 [] [(61, M_k51), (154, M_kaf), (123, M_k0b)] [61, 154, 123] [61, 154, 123] [] [1,5,7,19,20,21] [] [] [] [] := ⟨rfl, rfl, rfl, rfl, rfl, rfl, rfl, rfl, rfl, rfl, rfl⟩
structure L_ka7_0 where
  k : Int
  last : Int
  v19 : List Acc
  v20 : Int
  v21 : Int
  o0 : Shard
  c : Config
def an_ka7_0 : Ann := mkAnn (σ := L_ka7_0) (lSkip vUnk <| lCons (vOne cI) <| lSkip vUnk <| lSkip vUnk <| lSkip vUnk <| lSkip (vOne (cPtr 1 0 0)) <| lSkip vUnk <| lCons (vOne cI) <| K8 <| lSkip vUnk <| lSkip vUnk <| lSkip vUnk <| lCons (vOne (cSl ceAcc)) <| lCons (vOne cI) <| lCons (vOne cI) <| K8 <| K8 <| K8 <| lSkip vUnk <| lSkip vUnk <| lSkip vUnk <| lSkip vUnk <| lSkip vUnk <| lSkip vUnk <|  lNil) (lCons (oBox 113 (cStr ceShard)) <| lCons (oBox 23 (cStr ceConfig)) <|  lNil)
  (fun a b => L_ka7_0.mk (a.1) (a.2.1) (a.2.2.1) (a.2.2.2.1) (a.2.2.2.2.1) (b.1) (b.2.1)) (fun s => (s.k, s.last, s.v19, s.v20, s.v21, ())) (fun s => (s.o0, s.c, ())) (fun a b => true) (fun _ _ _ => ⟨rfl, rfl⟩)
theorem an_ka7_0_c (C : Cfg) : an_ka7_0.c C = C := rfl
set_option maxRecDepth 100000 in
theorem an_ka7_0_st (s : an_ka7_0.σ) : an_ka7_0.st s = (toL 52 (.node (.node (.node (.node (.node (.node (.node (.node (.leaf (.unk)) (.leaf (.v (.one (.d (.sc (.int .i64 (L_ka7_0.k s)))))))) (.leaf (.unk))) (.node (.node (.leaf (.unk)) (.leaf (.v (.one (.ptr 1 0 0))))) (.node (.leaf (.unk)) (.leaf (.v (.one (.d (.sc (.int .i64 (L_ka7_0.last s)))))))))) (.leaf (.unk))) (.node (.node (.node (.leaf (.unk)) (.node (.leaf (.unk)) (.leaf (.v (.one (.d (.sl ((L_ka7_0.v19 s).map Acc.c)))))))) (.node (.node (.leaf (.v (.one (.d (.sc (.int .i64 (L_ka7_0.v20 s))))))) (.leaf (.v (.one (.d (.sc (.int .i64 (L_ka7_0.v21 s)))))))) (.leaf (.unk)))) (.leaf (.unk)))) (.leaf (.unk))) (.leaf (.unk))) (.leaf (.unk))), [.box 113 (ddv (Shard.c (L_ka7_0.o0 s))), .box 23 (ddv (Config.c (L_ka7_0.c s)))]) := rfl
set_option maxHeartbeats 4000000 in
set_option maxRecDepth 100000 in
theorem an_ka7_0_un {β : Type} (k : Int) (last : Int) (p_v19 : List (List DV)) (v20 : Int) (v21 : Int) (p_o0 : List CV) (p_c : List CV) (f_ : an_ka7_0.σ → Option β) : (an_ka7_0.un (.unk :: .v (.one (.d (.sc (.int .i64 k)))) :: .unk :: .unk :: .unk :: .v (.one (.ptr 1 0 0)) :: .unk :: .v (.one (.d (.sc (.int .i64 last)))) :: U8 (.unk :: .unk :: .unk :: .v (.one (.d (.sl p_v19))) :: .v (.one (.d (.sc (.int .i64 v20)))) :: .v (.one (.d (.sc (.int .i64 v21)))) :: U8 (U8 (U8 (.unk :: .unk :: .unk :: .unk :: .unk :: .unk :: []))))) [.box 113 p_o0, .box 23 p_c]).bind f_ = (decL dAcc p_v19).bind fun v19 => ((allD p_o0).bind dShard).bind fun o0 => ((allD p_c).bind dConfig).bind fun c => f_ (L_ka7_0.mk k last v19 v20 v21 o0 c) :=
  (mkAnn_un (σ := L_ka7_0) _ _ _ _ _ _ _ _ _ f_).trans (by simp (maxSteps := 10000000) [Option.bind_assoc, U8, U64, K8, K64])
def T_ka7 : List (Nat × LoopA) := [(0, .ty an_ka7_0)]
set_option maxHeartbeats 20000000 in
set_option maxRecDepth 100000 in
noncomputable def pk_ka7 : { F : Shard → Int → Config → Option (Bool) // CallC Tryz.prog 122 (con3 (eT ceShard) eInt (eT ceConfig) (fun x0 x1 x2 => (F x0 x1 x2).map (res1 rB).enc)) } :=
  ⟨_, cc3 E_ka7 Tryz.func122 rfl rfl (T := T_ka7) (G := []) (r := (res1 rB)) fun x0 x1 x2 => by
    unfold Wf
    simp (maxSteps := 10000000) (implicitDefEqProofs := false) [ty_ka7, c_shard_Check, T_ka7, Tryz.f122, M_k51, M_kaf, M_k0b, an_ka7_0_st, an_ka7_0_un, an_ka7_0_c, iC, uC, bC, sC, Acc.c, Config.c, Shard.c, Tx.c]
    try rfl⟩
noncomputable def F_ka7 : Shard → Int → Config → Option (Bool) := pk_ka7.1
noncomputable def M_ka7 : List DA → Option (List RV) := con3 (eT ceShard) eInt (eT ceConfig) (fun x0 x1 x2 => (F_ka7 x0 x1 x2).map (res1 rB).enc)
theorem cc_ka7 : CallC Tryz.prog 122 M_ka7 := pk_ka7.2
theorem en_k7a : Enters Tryz.prog 79 := ⟨_, Tryz.func79, rfl, rfl⟩
def ty_k7a : List (Nat × TI) := [ti63, ti23, ti3, ti24, ti65]
noncomputable def C_k7a : Cfg := mkC ty_k7a [] [(62, M_k6e), (68, M_k83), (119, M_k5f)] [62, 68, 119] [] [1,3,5,7] [] [(7, [true, true, true, false, true, true, false, false, true, true, true, true, true, true, false, true, true, true, true, true, true, true, true, true, true, true, true, true, true, true, true, true, true, true])]
theorem E_k7a : Env1 Tryz.prog C_k7a := mkC_ok (by kernel_rfl) (⟨⟨en_k6e, cc_k6e⟩, ⟨⟨en_k83, cc_k83⟩, ⟨⟨en_k5f, cc_k5f⟩, trivial⟩⟩⟩) (by kernel_rfl)
theorem c_r11_Check : CIs (C_k7a) ty_k7a [] [(62, M_k6e), (68, M_k83), (119, M_k5f)] [62, 68, 119] [62, 68, 119] [] [1,3,5,7] [] [(7, [true, true, true, false, true, true, false, false, true, true, true, true, true, true, false, true, true, true, true, true, true, true, true, true, true, true, true, true, true, true, true, true, true, true])] [] [] := ⟨rfl, rfl, rfl, rfl, rfl, rfl, rfl, rfl, rfl, rfl, rfl⟩
structure L_k7a_0 where
  k : Int
  i : Int
  s_ : Shard
  c : Config
def an_k7a_0 : Ann := mkAnn (σ := L_k7a_0) (lSkip vUnk <| lCons (vOne cI) <| lSkip vUnk <| lSkip (vOne (cPtr 0 0 0)) <| lSkip vUnk <| lSkip (vOne (cPtr 1 0 0)) <| lSkip vUnk <| lCons (vOne cI) <| K8 <| K8 <| K8 <| K8 <| K8 <| K8 <| lSkip vUnk <| lSkip vUnk <| lSkip vUnk <| lSkip vUnk <| lSkip vUnk <| lSkip vUnk <| lSkip vUnk <|  lNil) (lCons (oBox 63 (cStr ceShard)) <| lCons (oBox 23 (cStr ceConfig)) <|  lNil)
  (fun a b => L_k7a_0.mk (a.1) (a.2.1) (b.1) (b.2.1)) (fun s => (s.k, s.i, ())) (fun s => (s.s_, s.c, ())) (fun a b => true) (fun _ _ _ => ⟨rfl, rfl⟩)
theorem an_k7a_0_c (C : Cfg) : an_k7a_0.c C = C := rfl
set_option maxRecDepth 100000 in
theorem an_k7a_0_st (s : an_k7a_0.σ) : an_k7a_0.st s = (toL 63 (.node (.node (.node (.node (.node (.node (.node (.node (.leaf (.unk)) (.leaf (.v (.one (.d (.sc (.int .i64 (L_k7a_0.k s)))))))) (.node (.leaf (.unk)) (.leaf (.v (.one (.ptr 0 0 0)))))) (.node (.node (.leaf (.unk)) (.leaf (.v (.one (.ptr 1 0 0))))) (.node (.leaf (.unk)) (.leaf (.v (.one (.d (.sc (.int .i64 (L_k7a_0.i s)))))))))) (.leaf (.unk))) (.leaf (.unk))) (.leaf (.unk))) (.leaf (.unk))) (.leaf (.unk))), [.box 63 (ddv (Shard.c (L_k7a_0.s_ s))), .box 23 (ddv (Config.c (L_k7a_0.c s)))]) := rfl
set_option maxHeartbeats 4000000 in
set_option maxRecDepth 100000 in
theorem an_k7a_0_un {β : Type} (k : Int) (i : Int) (p_s_ : List CV) (p_c : List CV) (f_ : an_k7a_0.σ → Option β) : (an_k7a_0.un (.unk :: .v (.one (.d (.sc (.int .i64 k)))) :: .unk :: .v (.one (.ptr 0 0 0)) :: .unk :: .v (.one (.ptr 1 0 0)) :: .unk :: .v (.one (.d (.sc (.int .i64 i)))) :: U8 (U8 (U8 (U8 (U8 (U8 (.unk :: .unk :: .unk :: .unk :: .unk :: .unk :: .unk :: []))))))) [.box 63 p_s_, .box 23 p_c]).bind f_ = ((allD p_s_).bind dShard).bind fun s_ => ((allD p_c).bind dConfig).bind fun c => f_ (L_k7a_0.mk k i s_ c) :=
  (mkAnn_un (σ := L_k7a_0) _ _ _ _ _ _ _ _ _ f_).trans (by simp (maxSteps := 10000000) [Option.bind_assoc, U8, U64, K8, K64])
def T_k7a : List (Nat × LoopA) := [(0, .ty an_k7a_0)]
set_option maxHeartbeats 20000000 in
set_option maxRecDepth 100000 in
noncomputable def pk_k7a : { F : Shard → Int → Config → Option (Bool) // CallC Tryz.prog 79 (con3 (eT ceShard) eInt (eT ceConfig) (fun x0 x1 x2 => (F x0 x1 x2).map (res1 rB).enc)) } :=
  ⟨_, cc3 E_k7a Tryz.func79 rfl rfl (T := T_k7a) (G := []) (r := (res1 rB)) fun x0 x1 x2 => by
    unfold Wf
    simp (maxSteps := 10000000) (implicitDefEqProofs := false) [ty_k7a, c_r11_Check, T_k7a, Tryz.f79, M_k6e, M_k83, M_k5f, an_k7a_0_st, an_k7a_0_un, an_k7a_0_c, iC, uC, bC, sC, Acc.c, Config.c, Shard.c, Tx.c]
    try rfl⟩
noncomputable def F_k7a : Shard → Int → Config → Option (Bool) := pk_k7a.1
noncomputable def M_k7a : List DA → Option (List RV) := con3 (eT ceShard) eInt (eT ceConfig) (fun x0 x1 x2 => (F_k7a x0 x1 x2).map (res1 rB).enc)
theorem cc_k7a : CallC Tryz.prog 79 M_k7a := pk_k7a.2
theorem en_k79 : Enters Tryz.prog 16 := ⟨_, Tryz.func16, rfl, rfl⟩
def ty_k79 : List (Nat × TI) := [ti24, ti3, ti65]
noncomputable def C_k79 : Cfg := mkC ty_k79 [] [(59, M_k74)] [59] [] [0,1,5] [] [(6, [true, true, true, true, true, true, true, true, false, true])]
theorem E_k79 : Env1 Tryz.prog C_k79 := mkC_ok (by kernel_rfl) (⟨⟨en_k74, cc_k74⟩, trivial⟩) (by kernel_rfl)
theorem c_r11_Accounts : CIs (C_k79) ty_k79 [] [(59, M_k74)] [59] [59] [] [0,1,5] [] [(6, [true, true, true, true, true, true, true, true, false, true])] [] [] := ⟨rfl, rfl, rfl, rfl, rfl, rfl, rfl, rfl, rfl, rfl, rfl⟩
structure L_k79_0 where
  a_ : List Acc
  b_ : List Acc
  i : Int
def an_k79_0 : Ann := mkAnn (σ := L_k79_0) (lCons (vOne (cSl ceAcc)) <| lCons (vOne (cSl ceAcc)) <| lSkip vUnk <| lSkip vUnk <| lSkip vUnk <| lCons (vOne cI) <| K8 <| K8 <| lSkip vUnk <| lSkip vUnk <| lSkip vUnk <| lSkip vUnk <| lSkip vUnk <|  lNil) ( lNil)
  (fun a b => L_k79_0.mk (a.1) (a.2.1) (a.2.2.1)) (fun s => (s.a_, s.b_, s.i, ())) (fun s => (())) (fun a b => true) (fun _ _ _ => ⟨rfl, rfl⟩)
theorem an_k79_0_c (C : Cfg) : an_k79_0.c C = C := rfl
set_option maxRecDepth 100000 in
theorem an_k79_0_st (s : an_k79_0.σ) : an_k79_0.st s = (toL 27 (.node (.node (.node (.node (.node (.node (.node (.node (.leaf (.v (.one (.d (.sl ((L_k79_0.a_ s).map Acc.c)))))) (.leaf (.v (.one (.d (.sl ((L_k79_0.b_ s).map Acc.c))))))) (.leaf (.unk))) (.node (.node (.leaf (.unk)) (.leaf (.v (.one (.d (.sc (.int .i64 (L_k79_0.i s)))))))) (.leaf (.unk)))) (.leaf (.unk))) (.leaf (.unk))) (.leaf (.unk))) (.leaf (.unk))) (.leaf (.unk))), []) := rfl
set_option maxHeartbeats 4000000 in
set_option maxRecDepth 100000 in
theorem an_k79_0_un {β : Type} (p_a_ : List (List DV)) (p_b_ : List (List DV)) (i : Int) (f_ : an_k79_0.σ → Option β) : (an_k79_0.un (.v (.one (.d (.sl p_a_))) :: .v (.one (.d (.sl p_b_))) :: .unk :: .unk :: .unk :: .v (.one (.d (.sc (.int .i64 i)))) :: U8 (U8 (.unk :: .unk :: .unk :: .unk :: .unk :: []))) []).bind f_ = (decL dAcc p_a_).bind fun a_ => (decL dAcc p_b_).bind fun b_ => f_ (L_k79_0.mk a_ b_ i) :=
  (mkAnn_un (σ := L_k79_0) _ _ _ _ _ _ _ _ _ f_).trans (by simp (maxSteps := 10000000) [Option.bind_assoc, U8, U64, K8, K64])
def T_k79 : List (Nat × LoopA) := [(0, .ty an_k79_0)]
set_option maxHeartbeats 20000000 in
set_option maxRecDepth 100000 in
noncomputable def pk_k79 : { F : (List Acc) → (List Acc) → Option (Bool) // CallC Tryz.prog 16 (con2 (eL ceAcc) (eL ceAcc) (fun x0 x1 => (F x0 x1).map (res1 rB).enc)) } :=
  ⟨_, cc2 E_k79 Tryz.func16 rfl rfl (T := T_k79) (G := []) (r := (res1 rB)) fun x0 x1 => by
    unfold Wf
    simp (maxSteps := 10000000) (implicitDefEqProofs := false) [ty_k79, c_r11_Accounts, T_k79, Tryz.f16, M_k74, an_k79_0_st, an_k79_0_un, an_k79_0_c, iC, uC, bC, sC, Acc.c, Tx.c]
    try rfl⟩
noncomputable def F_k79 : (List Acc) → (List Acc) → Option (Bool) := pk_k79.1
noncomputable def M_k79 : List DA → Option (List RV) := con2 (eL ceAcc) (eL ceAcc) (fun x0 x1 => (F_k79 x0 x1).map (res1 rB).enc)
theorem cc_k79 : CallC Tryz.prog 16 M_k79 := pk_k79.2
theorem en_k7b : Enters Tryz.prog 12 := ⟨_, Tryz.func12, rfl, rfl⟩
def ty_k7b : List (Nat × TI) := [ti24, ti3, ti65, ti32, ti31]
noncomputable def C_k7b : Cfg := mkC ty_k7b [] [(52, M_k69)] [52] [] [0,1,5] [] []
theorem E_k7b : Env1 Tryz.prog C_k7b := mkC_ok (by kernel_rfl) (⟨⟨en_k69, cc_k69⟩, trivial⟩) (by kernel_rfl)
theorem c_r11_Few : CIs (C_k7b) ty_k7b [] [(52, M_k69)] [52] [52] [] [0,1,5] [] [] [] [] := ⟨rfl, rfl, rfl, rfl, rfl, rfl, rfl, rfl, rfl, rfl, rfl⟩
structure L_k7b_0 where
  l : List Acc
  most : Int
  i : Int
def an_k7b_0 : Ann := mkAnn (σ := L_k7b_0) (lCons (vOne (cSl ceAcc)) <| lCons (vOne cI) <| lSkip vUnk <| lSkip vUnk <| lSkip vUnk <| lCons (vOne cI) <| K8 <| K8 <| lSkip vUnk <|  lNil) ( lNil)
  (fun a b => L_k7b_0.mk (a.1) (a.2.1) (a.2.2.1)) (fun s => (s.l, s.most, s.i, ())) (fun s => (())) (fun a b => true) (fun _ _ _ => ⟨rfl, rfl⟩)
theorem an_k7b_0_c (C : Cfg) : an_k7b_0.c C = C := rfl
set_option maxRecDepth 100000 in
theorem an_k7b_0_st (s : an_k7b_0.σ) : an_k7b_0.st s = (toL 23 (.node (.node (.node (.node (.node (.node (.node (.node (.leaf (.v (.one (.d (.sl ((L_k7b_0.l s).map Acc.c)))))) (.leaf (.v (.one (.d (.sc (.int .i64 (L_k7b_0.most s)))))))) (.leaf (.unk))) (.node (.node (.leaf (.unk)) (.leaf (.v (.one (.d (.sc (.int .i64 (L_k7b_0.i s)))))))) (.leaf (.unk)))) (.leaf (.unk))) (.leaf (.unk))) (.leaf (.unk))) (.leaf (.unk))) (.leaf (.unk))), []) := rfl
set_option maxHeartbeats 4000000 in
set_option maxRecDepth 100000 in
theorem an_k7b_0_un {β : Type} (p_l : List (List DV)) (most : Int) (i : Int) (f_ : an_k7b_0.σ → Option β) : (an_k7b_0.un (.v (.one (.d (.sl p_l))) :: .v (.one (.d (.sc (.int .i64 most)))) :: .unk :: .unk :: .unk :: .v (.one (.d (.sc (.int .i64 i)))) :: U8 (U8 (.unk :: []))) []).bind f_ = (decL dAcc p_l).bind fun l => f_ (L_k7b_0.mk l most i) :=
  (mkAnn_un (σ := L_k7b_0) _ _ _ _ _ _ _ _ _ f_).trans (by simp (maxSteps := 10000000) [Option.bind_assoc, U8, U64, K8, K64])
def T_k7b : List (Nat × LoopA) := [(0, .ty an_k7b_0)]
set_option maxHeartbeats 20000000 in
set_option maxRecDepth 100000 in
noncomputable def pk_k7b : { F : (List Acc) → Int → Option (Bool) // CallC Tryz.prog 12 (con2 (eL ceAcc) eInt (fun x0 x1 => (F x0 x1).map (res1 rB).enc)) } :=
  ⟨_, cc2 E_k7b Tryz.func12 rfl rfl (T := T_k7b) (G := []) (r := (res1 rB)) fun x0 x1 => by
    unfold Wf
    simp (maxSteps := 10000000) (implicitDefEqProofs := false) [ty_k7b, c_r11_Few, T_k7b, Tryz.f12, M_k69, an_k7b_0_st, an_k7b_0_un, an_k7b_0_c, iC, uC, bC, sC, Acc.c, Tx.c]
    try rfl⟩
noncomputable def F_k7b : (List Acc) → Int → Option (Bool) := pk_k7b.1
noncomputable def M_k7b : List DA → Option (List RV) := con2 (eL ceAcc) eInt (fun x0 x1 => (F_k7b x0 x1).map (res1 rB).enc)
theorem cc_k7b : CallC Tryz.prog 12 M_k7b := pk_k7b.2
theorem en_ka3 : Enters Tryz.prog 43 := ⟨_, Tryz.func43, rfl, rfl⟩
def ty_ka3 : List (Nat × TI) := [ti90, ti88, ti3, ti63, ti24, ti85, ti65]
noncomputable def C_ka3 : Cfg := mkC ty_ka3 [] [(12, M_k7b)] [12] [] [1,3] [] []
theorem E_ka3 : Env1 Tryz.prog C_ka3 := mkC_ok (by kernel_rfl) (⟨⟨en_k7b, cc_k7b⟩, trivial⟩) (by kernel_rfl)
theorem c_r16_Small : CIs (C_ka3) ty_ka3 [] [(12, M_k7b)] [12] [12] [] [1,3] [] [] [] [] := ⟨rfl, rfl, rfl, rfl, rfl, rfl, rfl, rfl, rfl, rfl, rfl⟩
structure L_ka3_0 where
  i : Int
  s_ : Sight
def an_ka3_0 : Ann := mkAnn (σ := L_ka3_0) (lSkip vUnk <| lSkip (vOne (cPtr 0 0 0)) <| lSkip vUnk <| lCons (vOne cI) <| K8 <| K8 <| K8 <| lSkip vUnk <|  lNil) (lCons (oBox 90 (cStr ceSight)) <|  lNil)
  (fun a b => L_ka3_0.mk (a.1) (b.1)) (fun s => (s.i, ())) (fun s => (s.s_, ())) (fun a b => true) (fun _ _ _ => ⟨rfl, rfl⟩)
theorem an_ka3_0_c (C : Cfg) : an_ka3_0.c C = C := rfl
set_option maxRecDepth 100000 in
theorem an_ka3_0_st (s : an_ka3_0.σ) : an_ka3_0.st s = (toL 29 (.node (.node (.node (.node (.node (.node (.node (.node (.leaf (.unk)) (.leaf (.v (.one (.ptr 0 0 0))))) (.node (.leaf (.unk)) (.leaf (.v (.one (.d (.sc (.int .i64 (L_ka3_0.i s))))))))) (.leaf (.unk))) (.leaf (.unk))) (.leaf (.unk))) (.leaf (.unk))) (.leaf (.unk))) (.leaf (.unk))), [.box 90 (ddv (Sight.c (L_ka3_0.s_ s)))]) := rfl
set_option maxHeartbeats 4000000 in
set_option maxRecDepth 100000 in
theorem an_ka3_0_un {β : Type} (i : Int) (p_s_ : List CV) (f_ : an_ka3_0.σ → Option β) : (an_ka3_0.un (.unk :: .v (.one (.ptr 0 0 0)) :: .unk :: .v (.one (.d (.sc (.int .i64 i)))) :: U8 (U8 (U8 (.unk :: [])))) [.box 90 p_s_]).bind f_ = ((allD p_s_).bind dSight).bind fun s_ => f_ (L_ka3_0.mk i s_) :=
  (mkAnn_un (σ := L_ka3_0) _ _ _ _ _ _ _ _ _ f_).trans (by simp (maxSteps := 10000000) [Option.bind_assoc, U8, U64, K8, K64])
def T_ka3 : List (Nat × LoopA) := [(0, .ty an_ka3_0)]
set_option maxHeartbeats 20000000 in
set_option maxRecDepth 100000 in
noncomputable def pk_ka3 : { F : Sight → Option (Bool) // CallC Tryz.prog 43 (con1 (eT ceSight) (fun x0 => (F x0).map (res1 rB).enc)) } :=
  ⟨_, cc1 E_ka3 Tryz.func43 rfl rfl (T := T_ka3) (G := []) (r := (res1 rB)) fun x0 => by
    unfold Wf
    simp (maxSteps := 10000000) (implicitDefEqProofs := false) [ty_ka3, c_r16_Small, T_ka3, Tryz.f43, M_k7b, an_ka3_0_st, an_ka3_0_un, an_ka3_0_c, iC, uC, bC, sC, Acc.c, Config.c, Pot.c, Shard.c, Sight.c, Tx.c]
    try rfl⟩
noncomputable def F_ka3 : Sight → Option (Bool) := pk_ka3.1
noncomputable def M_ka3 : List DA → Option (List RV) := con1 (eT ceSight) (fun x0 => (F_ka3 x0).map (res1 rB).enc)
theorem cc_ka3 : CallC Tryz.prog 43 M_ka3 := pk_ka3.2

end Go.Vm

/- What Go functions come to, as Lean functions: each with its contract. -/
set_option linter.unusedVariables false
set_option linter.unusedSimpArgs false
namespace Go.Vm
open Go Go.RowKit Go.Proofs
attribute [-simp] env0 envI evOps evOne evOp evIndexAddr evIndex evPick binV evLoad evStore loadC callV nilC storeC toDVs toDAs resRs
attribute [local simp] List.lookup List.replicate List.range_succ env0_tree envI_tree


end Go.Vm

/- What Go functions come to, as Lean functions: each with its contract. -/
set_option linter.unusedVariables false
set_option linter.unusedSimpArgs false
namespace Go.Vm
open Go Go.RowKit Go.Proofs
attribute [-simp] env0 envI evOps evOne evOp evIndexAddr evIndex evPick binV evLoad evStore loadC callV nilC storeC toDVs toDAs resRs
attribute [local simp] List.lookup List.replicate List.range_succ env0_tree envI_tree

theorem en_k1d : Enters Tryz.prog 83 := ⟨_, Tryz.func83, rfl, rfl⟩
def ty_k1d : List (Nat × TI) := [ti98, ti88, ti3, ti63, ti113]
noncomputable def C_k1d : Cfg := mkC ty_k1d [] [] [] [(2, [(0, 113, 2)]), (3, [(0, 113, 2)])] [0,3,4] [] []
theorem E_k1d : Env1 Tryz.prog C_k1d := mkC_ok (by kernel_rfl) trivial (by kernel_rfl)
theorem c_law11_Own : CIs (C_k1d) ty_k1d [] [] [] [] [(2, [(0, 113, 2)]), (3, [(0, 113, 2)])] [0,3,4] [] [] [] [] := ⟨rfl, rfl, rfl, rfl, rfl, rfl, rfl, rfl, rfl, rfl, rfl⟩
structure L_k1d_0 where
  l : List Shard
  i : Int
  o0 : List Shard
  out : List Shard
def an_k1d_0 : Ann := mkAnn (σ := L_k1d_0) (lCons (vOne (cSl ceShard)) <| lSkip vUnk <| lSkip vUnk <| lCons (vOne (cOwn 1)) <| lCons (vOne cI) <| K8 <| lSkip vUnk <| lSkip vUnk <| lSkip vUnk <| lSkip vUnk <| lSkip vUnk <| lSkip vUnk <|  lNil) (lCons (oArr 113 2 ceShard) <| lCons (oArr 113 2 ceShard) <|  lNil)
  (fun a b => L_k1d_0.mk (a.1) (a.2.2.1) (b.1) (b.2.1)) (fun s => (s.l, s.out.length, s.i, ())) (fun s => (s.o0, s.out, ())) (fun a b => decide (a.2.1 = (b.2.1).length)) (by rintro ⟨a0, a1, a2, _⟩ ⟨b0, b1, _⟩ h; simp at h; simp [h])
theorem an_k1d_0_c (C : Cfg) : an_k1d_0.c C = C := rfl
set_option maxRecDepth 100000 in
theorem an_k1d_0_st (s : an_k1d_0.σ) : an_k1d_0.st s = (toL 19 (.node (.node (.node (.node (.node (.node (.node (.node (.leaf (.v (.one (.d (.sl ((L_k1d_0.l s).map Shard.c)))))) (.leaf (.unk))) (.node (.leaf (.unk)) (.leaf (.v (.one (.own 1 (L_k1d_0.out s).length)))))) (.node (.node (.leaf (.v (.one (.d (.sc (.int .i64 (L_k1d_0.i s))))))) (.leaf (.unk))) (.leaf (.unk)))) (.leaf (.unk))) (.leaf (.unk))) (.leaf (.unk))) (.leaf (.unk))) (.leaf (.unk))), [.arr 113 2 ((L_k1d_0.o0 s).map Shard.c), .arr 113 2 ((L_k1d_0.out s).map Shard.c)]) := rfl
set_option maxHeartbeats 4000000 in
set_option maxRecDepth 100000 in
theorem an_k1d_0_un {β : Type} (p_l : List (List DV)) (m1_out : Nat) (i : Int) (p_o0 : List (List DV)) (p_out : List (List DV)) (f_ : an_k1d_0.σ → Option β) : (an_k1d_0.un (.v (.one (.d (.sl p_l))) :: .unk :: .unk :: .v (.one (.own 1 m1_out)) :: .v (.one (.d (.sc (.int .i64 i)))) :: U8 (.unk :: .unk :: .unk :: .unk :: .unk :: .unk :: [])) [.arr 113 2 p_o0, .arr 113 2 p_out]).bind f_ = (decL dShard p_l).bind fun l => (decL dShard p_o0).bind fun o0 => (decL dShard p_out).bind fun out => (if m1_out = out.length then f_ (L_k1d_0.mk l i o0 out) else none) :=
  (mkAnn_un (σ := L_k1d_0) _ _ _ _ _ _ _ _ _ f_).trans (by simp (maxSteps := 10000000) [Option.bind_assoc, U8, U64, K8, K64, bind_ite])
def T_k1d : List (Nat × LoopA) := [(0, .ty an_k1d_0)]
set_option maxHeartbeats 20000000 in
set_option maxRecDepth 100000 in
noncomputable def pk_k1d : { F : (List Shard) → Option ((List Shard)) // CallC Tryz.prog 83 (con1 (eL ceShard) (fun x0 => (F x0).map (res1 (rSl ceShard)).enc)) } :=
  ⟨_, cc1 E_k1d Tryz.func83 rfl rfl (T := T_k1d) (G := []) (r := (res1 (rSl ceShard))) fun x0 => by
    unfold Wf
    simp (maxSteps := 10000000) (implicitDefEqProofs := false) [ty_k1d, c_law11_Own, T_k1d, Tryz.f83, an_k1d_0_st, an_k1d_0_un, an_k1d_0_c, iC, uC, bC, sC, Acc.c, Shard.c, Tx.c]
    try rfl⟩
noncomputable def F_k1d : (List Shard) → Option ((List Shard)) := pk_k1d.1
noncomputable def M_k1d : List DA → Option (List RV) := con1 (eL ceShard) (fun x0 => (F_k1d x0).map (res1 (rSl ceShard)).enc)
theorem cc_k1d : CallC Tryz.prog 83 M_k1d := pk_k1d.2
theorem en_k2d : Enters Tryz.prog 48 := ⟨_, Tryz.func48, rfl, rfl⟩
def ty_k2d : List (Nat × TI) := [ti90, ti100, ti23, ti85, ti87, ti88, ti3, ti63]
noncomputable def C_k2d : Cfg := mkC ty_k2d [] [(83, M_k1d)] [] [] [] [] [(1, [true, true, true, true, true, true, true, true, true, true, false])]
theorem E_k2d : Env1 Tryz.prog C_k2d := mkC_ok (by kernel_rfl) (⟨⟨en_k1d, cc_k1d⟩, trivial⟩) (by kernel_rfl)
theorem c_law16_OwnSight : CIs (C_k2d) ty_k2d [] [(83, M_k1d)] [83] [] [] [] [] [(1, [true, true, true, true, true, true, true, true, true, true, false])] [] [] := ⟨rfl, rfl, rfl, rfl, rfl, rfl, rfl, rfl, rfl, rfl, rfl⟩
set_option maxHeartbeats 20000000 in
set_option maxRecDepth 100000 in
noncomputable def pk_k2d : { F : Sight → Option (Sight) // CallC Tryz.prog 48 (con1 (eT ceSight) (fun x0 => (F x0).map (res1 (rAgg ceSight)).enc)) } :=
  ⟨_, cc1 E_k2d Tryz.func48 rfl rfl (T := []) (G := []) (r := (res1 (rAgg ceSight))) fun x0 => by
    unfold Wf
    simp (maxSteps := 10000000) (implicitDefEqProofs := false) [ty_k2d, c_law16_OwnSight, Tryz.f48, M_k1d, iC, uC, bC, sC, Acc.c, Config.c, Pot.c, Shard.c, Sight.c, Tx.c]
    try rfl⟩
noncomputable def F_k2d : Sight → Option (Sight) := pk_k2d.1
noncomputable def M_k2d : List DA → Option (List RV) := con1 (eT ceSight) (fun x0 => (F_k2d x0).map (res1 (rAgg ceSight)).enc)
theorem cc_k2d : CallC Tryz.prog 48 M_k2d := pk_k2d.2
theorem en_k33 : Enters Tryz.prog 51 := ⟨_, Tryz.func51, rfl, rfl⟩
def ty_k33 : List (Nat × TI) := [ti100, ti90, ti23, ti96, ti97, ti98, ti3, ti88, ti113, ti63]
noncomputable def C_k33 : Cfg := mkC ty_k33 [] [] [] [(11, [(11, 63, 2)])] [1,2,3,4] [] [(5, [true, true, true, true, true, true, true, true, false, true, false])]
theorem E_k33 : Env1 Tryz.prog C_k33 := mkC_ok (by kernel_rfl) trivial (by kernel_rfl)
theorem c_law16_ToldSight : CIs (C_k33) ty_k33 [] [] [] [] [(11, [(11, 63, 2)])] [1,2,3,4] [] [(5, [true, true, true, true, true, true, true, true, false, true, false])] [] [] := ⟨rfl, rfl, rfl, rfl, rfl, rfl, rfl, rfl, rfl, rfl, rfl⟩
structure L_k33_0 where
  i : Int
  s_ : Sight
  config_shards : Int
  config_soft : Int
  config_hard : Int
  config_per : Int
  config_bump : Int
  config_feed : Int
  config_workers : Int
  config_room : Int
  pot_taken : Int
  pot_most : Int
  o2 : List Shard
  config_shards2 : Int
  config_soft2 : Int
  config_hard2 : Int
  config_per2 : Int
  config_bump2 : Int
  config_feed2 : Int
  config_workers2 : Int
  config_room2 : Int
  locks : List Int
  pot_taken2 : Int
  pot_most2 : Int
def an_k33_0 : Ann := mkAnn (σ := L_k33_0) (lSkip vUnk <| lSkip (vOne (cPtr 0 0 0)) <| lSkip (vOne (cPtr 1 0 0)) <| lSkip (vOne (cPtr 3 0 0)) <| lCons (vOne cI) <| K8 <| K8 <| K8 <| lSkip vUnk <|  lNil) (lCons (oBox 100 (cStr ceSight)) <| lCons (oBox 90 (lCons cI <| lCons cI <| lCons cI <| lCons cI <| lCons cI <| lCons cI <| lCons cI <| lCons cI <| lSkip cNil <| lCons cI <| lCons cI <| lSkip cNil <|  lNil)) <| lCons (oArr 63 2 ceShard) <| lCons (oBox 90 (lCons cI <| lCons cI <| lCons cI <| lCons cI <| lCons cI <| lCons cI <| lCons cI <| lCons cI <| lCons (cSl ceI) <| lCons cI <| lCons cI <| lCons (cOwn 2) <|  lNil)) <|  lNil)
  (fun a b => L_k33_0.mk (a.1) (b.1) (b.2.1.1) (b.2.1.2.1) (b.2.1.2.2.1) (b.2.1.2.2.2.1) (b.2.1.2.2.2.2.1) (b.2.1.2.2.2.2.2.1) (b.2.1.2.2.2.2.2.2.1) (b.2.1.2.2.2.2.2.2.2.1) (b.2.1.2.2.2.2.2.2.2.2.1) (b.2.1.2.2.2.2.2.2.2.2.2.1) (b.2.2.1) (b.2.2.2.1.1) (b.2.2.2.1.2.1) (b.2.2.2.1.2.2.1) (b.2.2.2.1.2.2.2.1) (b.2.2.2.1.2.2.2.2.1) (b.2.2.2.1.2.2.2.2.2.1) (b.2.2.2.1.2.2.2.2.2.2.1) (b.2.2.2.1.2.2.2.2.2.2.2.1) (b.2.2.2.1.2.2.2.2.2.2.2.2.1) (b.2.2.2.1.2.2.2.2.2.2.2.2.2.1) (b.2.2.2.1.2.2.2.2.2.2.2.2.2.2.1)) (fun s => (s.i, ())) (fun s => (s.s_, (s.config_shards, s.config_soft, s.config_hard, s.config_per, s.config_bump, s.config_feed, s.config_workers, s.config_room, s.pot_taken, s.pot_most, ()), s.o2, (s.config_shards2, s.config_soft2, s.config_hard2, s.config_per2, s.config_bump2, s.config_feed2, s.config_workers2, s.config_room2, s.locks, s.pot_taken2, s.pot_most2, s.o2.length, ()), ())) (fun a b => decide (b.2.2.2.1.2.2.2.2.2.2.2.2.2.2.2.1 = (b.2.2.1).length)) (by rintro ⟨a0, _⟩ ⟨b0, ⟨c1_0, c1_1, c1_2, c1_3, c1_4, c1_5, c1_6, c1_7, c1_8, c1_9, _⟩, b2, ⟨c3_0, c3_1, c3_2, c3_3, c3_4, c3_5, c3_6, c3_7, c3_8, c3_9, c3_10, c3_11, _⟩, _⟩ h; simp at h; simp [h])
theorem an_k33_0_c (C : Cfg) : an_k33_0.c C = C := rfl
set_option maxRecDepth 100000 in
theorem an_k33_0_st (s : an_k33_0.σ) : an_k33_0.st s = (toL 30 (.node (.node (.node (.node (.node (.node (.node (.node (.leaf (.unk)) (.leaf (.v (.one (.ptr 0 0 0))))) (.node (.leaf (.v (.one (.ptr 1 0 0)))) (.leaf (.v (.one (.ptr 3 0 0)))))) (.node (.node (.leaf (.v (.one (.d (.sc (.int .i64 (L_k33_0.i s))))))) (.leaf (.unk))) (.leaf (.unk)))) (.leaf (.unk))) (.leaf (.unk))) (.leaf (.unk))) (.leaf (.unk))) (.leaf (.unk))), [.box 100 (ddv (Sight.c (L_k33_0.s_ s))), .box 90 [.d (.sc (.int .i64 (L_k33_0.config_shards s))), .d (.sc (.int .i64 (L_k33_0.config_soft s))), .d (.sc (.int .i64 (L_k33_0.config_hard s))), .d (.sc (.int .i64 (L_k33_0.config_per s))), .d (.sc (.int .i64 (L_k33_0.config_bump s))), .d (.sc (.int .i64 (L_k33_0.config_feed s))), .d (.sc (.int .i64 (L_k33_0.config_workers s))), .d (.sc (.int .i64 (L_k33_0.config_room s))), .nil, .d (.sc (.int .i64 (L_k33_0.pot_taken s))), .d (.sc (.int .i64 (L_k33_0.pot_most s))), .nil], .arr 63 2 ((L_k33_0.o2 s).map Shard.c), .box 90 [.d (.sc (.int .i64 (L_k33_0.config_shards2 s))), .d (.sc (.int .i64 (L_k33_0.config_soft2 s))), .d (.sc (.int .i64 (L_k33_0.config_hard2 s))), .d (.sc (.int .i64 (L_k33_0.config_per2 s))), .d (.sc (.int .i64 (L_k33_0.config_bump2 s))), .d (.sc (.int .i64 (L_k33_0.config_feed2 s))), .d (.sc (.int .i64 (L_k33_0.config_workers2 s))), .d (.sc (.int .i64 (L_k33_0.config_room2 s))), .d (.sl ((L_k33_0.locks s).map iC)), .d (.sc (.int .i64 (L_k33_0.pot_taken2 s))), .d (.sc (.int .i64 (L_k33_0.pot_most2 s))), .own 2 (L_k33_0.o2 s).length]]) := rfl
set_option maxHeartbeats 4000000 in
set_option maxRecDepth 100000 in
theorem an_k33_0_un {β : Type} (i : Int) (p_s_ : List CV) (config_shards : Int) (config_soft : Int) (config_hard : Int) (config_per : Int) (config_bump : Int) (config_feed : Int) (config_workers : Int) (config_room : Int) (pot_taken : Int) (pot_most : Int) (p_o2 : List (List DV)) (config_shards2 : Int) (config_soft2 : Int) (config_hard2 : Int) (config_per2 : Int) (config_bump2 : Int) (config_feed2 : Int) (config_workers2 : Int) (config_room2 : Int) (p_locks : List (List DV)) (pot_taken2 : Int) (pot_most2 : Int) (m1_o2 : Nat) (f_ : an_k33_0.σ → Option β) : (an_k33_0.un (.unk :: .v (.one (.ptr 0 0 0)) :: .v (.one (.ptr 1 0 0)) :: .v (.one (.ptr 3 0 0)) :: .v (.one (.d (.sc (.int .i64 i)))) :: U8 (U8 (U8 (.unk :: [])))) [.box 100 p_s_, .box 90 [.d (.sc (.int .i64 config_shards)), .d (.sc (.int .i64 config_soft)), .d (.sc (.int .i64 config_hard)), .d (.sc (.int .i64 config_per)), .d (.sc (.int .i64 config_bump)), .d (.sc (.int .i64 config_feed)), .d (.sc (.int .i64 config_workers)), .d (.sc (.int .i64 config_room)), .nil, .d (.sc (.int .i64 pot_taken)), .d (.sc (.int .i64 pot_most)), .nil], .arr 63 2 p_o2, .box 90 [.d (.sc (.int .i64 config_shards2)), .d (.sc (.int .i64 config_soft2)), .d (.sc (.int .i64 config_hard2)), .d (.sc (.int .i64 config_per2)), .d (.sc (.int .i64 config_bump2)), .d (.sc (.int .i64 config_feed2)), .d (.sc (.int .i64 config_workers2)), .d (.sc (.int .i64 config_room2)), .d (.sl p_locks), .d (.sc (.int .i64 pot_taken2)), .d (.sc (.int .i64 pot_most2)), .own 2 m1_o2]]).bind f_ = ((allD p_s_).bind dSight).bind fun s_ => (decL dShard p_o2).bind fun o2 => (decL iD p_locks).bind fun locks => (if m1_o2 = o2.length then f_ (L_k33_0.mk i s_ config_shards config_soft config_hard config_per config_bump config_feed config_workers config_room pot_taken pot_most o2 config_shards2 config_soft2 config_hard2 config_per2 config_bump2 config_feed2 config_workers2 config_room2 locks pot_taken2 pot_most2) else none) :=
  (mkAnn_un (σ := L_k33_0) _ _ _ _ _ _ _ _ _ f_).trans (by simp (maxSteps := 10000000) [Option.bind_assoc, U8, U64, K8, K64, bind_ite])
def T_k33 : List (Nat × LoopA) := [(0, .ty an_k33_0)]
set_option maxHeartbeats 20000000 in
set_option maxRecDepth 100000 in
noncomputable def pk_k33 : { F : Sight → Option (Sight) // CallC Tryz.prog 51 (con1 (eT ceSight) (fun x0 => (F x0).map (res1 (rAgg ceSight)).enc)) } :=
  ⟨_, cc1 E_k33 Tryz.func51 rfl rfl (T := T_k33) (G := []) (r := (res1 (rAgg ceSight))) fun x0 => by
    unfold Wf
    simp (maxSteps := 10000000) (implicitDefEqProofs := false) [ty_k33, c_law16_ToldSight, T_k33, Tryz.f51, an_k33_0_st, an_k33_0_un, an_k33_0_c, iC, uC, bC, sC, Acc.c, Config.c, Pot.c, Shard.c, Sight.c, Tx.c]
    try rfl⟩
noncomputable def F_k33 : Sight → Option (Sight) := pk_k33.1
noncomputable def M_k33 : List DA → Option (List RV) := con1 (eT ceSight) (fun x0 => (F_k33 x0).map (res1 (rAgg ceSight)).enc)
theorem cc_k33 : CallC Tryz.prog 51 M_k33 := pk_k33.2

end Go.Vm

/- What Go functions come to, as Lean functions: each with its contract. -/
set_option linter.unusedVariables false
set_option linter.unusedSimpArgs false
namespace Go.Vm
open Go Go.RowKit Go.Proofs
attribute [-simp] env0 envI evOps evOne evOp evIndexAddr evIndex evPick binV evLoad evStore loadC callV nilC storeC toDVs toDAs resRs
attribute [local simp] List.lookup List.replicate List.range_succ env0_tree envI_tree

theorem en_kc0 : Enters Tryz.prog 81 := ⟨_, Tryz.func81, rfl, rfl⟩
def ty_kc0 : List (Nat × TI) := [ti100, ti23, ti96, ti3, ti98, ti97, ti113]
noncomputable def C_kc0 : Cfg := mkC ty_kc0 [] [(19, M_k48), (122, M_ka7)] [19, 122] [] [1,3,50,51,52] [] []
theorem E_kc0 : Env1 Tryz.prog C_kc0 := mkC_ok (by kernel_rfl) (⟨⟨en_k48, cc_k48⟩, ⟨⟨en_ka7, cc_ka7⟩, trivial⟩⟩) (by kernel_rfl)
theorem c_task_May : CIs (C_kc0) ty_kc0 [] [(19, M_k48), (122, M_ka7)] [19, 122] [19, 122] [] [1,3,50,51,52] [] [] [] [] := ⟨rfl, rfl, rfl, rfl, rfl, rfl, rfl, rfl, rfl, rfl, rfl⟩
structure L_kc0_0 where
  v50 : List Shard
  v51 : Int
  v52 : Int
  s_ : Sight
  c : Config
def an_kc0_0 : Ann := mkAnn (σ := L_kc0_0) (lSkip vUnk <| lSkip (vOne (cPtr 0 0 0)) <| lSkip vUnk <| lSkip (vOne (cPtr 1 0 0)) <| K8 <| K8 <| K8 <| K8 <| K8 <| lSkip vUnk <| lSkip vUnk <| lSkip vUnk <| lSkip vUnk <| lSkip vUnk <| lSkip vUnk <| lCons (vOne (cSl ceShard)) <| lCons (vOne cI) <| lCons (vOne cI) <| K8 <| K8 <| lSkip vUnk <| lSkip vUnk <|  lNil) (lCons (oBox 100 (cStr ceSight)) <| lCons (oBox 23 (cStr ceConfig)) <|  lNil)
  (fun a b => L_kc0_0.mk (a.1) (a.2.1) (a.2.2.1) (b.1) (b.2.1)) (fun s => (s.v50, s.v51, s.v52, ())) (fun s => (s.s_, s.c, ())) (fun a b => true) (fun _ _ _ => ⟨rfl, rfl⟩)
theorem an_kc0_0_c (C : Cfg) : an_kc0_0.c C = C := rfl
set_option maxRecDepth 100000 in
theorem an_kc0_0_st (s : an_kc0_0.σ) : an_kc0_0.st s = (toL 71 (.node (.node (.node (.node (.node (.node (.node (.node (.leaf (.unk)) (.leaf (.v (.one (.ptr 0 0 0))))) (.node (.leaf (.unk)) (.leaf (.v (.one (.ptr 1 0 0)))))) (.leaf (.unk))) (.leaf (.unk))) (.leaf (.unk))) (.node (.leaf (.unk)) (.node (.node (.node (.leaf (.unk)) (.node (.leaf (.v (.one (.d (.sl ((L_kc0_0.v50 s).map Shard.c)))))) (.leaf (.v (.one (.d (.sc (.int .i64 (L_kc0_0.v51 s))))))))) (.node (.node (.leaf (.v (.one (.d (.sc (.int .i64 (L_kc0_0.v52 s))))))) (.leaf (.unk))) (.leaf (.unk)))) (.leaf (.unk))))) (.leaf (.unk))) (.leaf (.unk))), [.box 100 (ddv (Sight.c (L_kc0_0.s_ s))), .box 23 (ddv (Config.c (L_kc0_0.c s)))]) := rfl
set_option maxHeartbeats 4000000 in
set_option maxRecDepth 100000 in
theorem an_kc0_0_un {β : Type} (p_v50 : List (List DV)) (v51 : Int) (v52 : Int) (p_s_ : List CV) (p_c : List CV) (f_ : an_kc0_0.σ → Option β) : (an_kc0_0.un (.unk :: .v (.one (.ptr 0 0 0)) :: .unk :: .v (.one (.ptr 1 0 0)) :: U8 (U8 (U8 (U8 (U8 (.unk :: .unk :: .unk :: .unk :: .unk :: .unk :: .v (.one (.d (.sl p_v50))) :: .v (.one (.d (.sc (.int .i64 v51)))) :: .v (.one (.d (.sc (.int .i64 v52)))) :: U8 (U8 (.unk :: .unk :: [])))))))) [.box 100 p_s_, .box 23 p_c]).bind f_ = (decL dShard p_v50).bind fun v50 => ((allD p_s_).bind dSight).bind fun s_ => ((allD p_c).bind dConfig).bind fun c => f_ (L_kc0_0.mk v50 v51 v52 s_ c) :=
  (mkAnn_un (σ := L_kc0_0) _ _ _ _ _ _ _ _ _ f_).trans (by simp (maxSteps := 10000000) [Option.bind_assoc, U8, U64, K8, K64])
def T_kc0 : List (Nat × LoopA) := [(0, .ty an_kc0_0)]
set_option maxHeartbeats 20000000 in
set_option maxRecDepth 100000 in
noncomputable def pk_kc0 : { F : Sight → Option (Bool) // CallC Tryz.prog 81 (con1 (eT ceSight) (fun x0 => (F x0).map (res1 rB).enc)) } :=
  ⟨_, cc1 E_kc0 Tryz.func81 rfl rfl (T := T_kc0) (G := []) (r := (res1 rB)) fun x0 => by
    unfold Wf
    simp (maxSteps := 10000000) (implicitDefEqProofs := false) [ty_kc0, c_task_May, T_kc0, Tryz.f81, M_k48, M_ka7, an_kc0_0_st, an_kc0_0_un, an_kc0_0_c, iC, uC, bC, sC, Acc.c, Config.c, Pot.c, Shard.c, Sight.c, Tx.c]
    try rfl⟩
noncomputable def F_kc0 : Sight → Option (Bool) := pk_kc0.1
noncomputable def M_kc0 : List DA → Option (List RV) := con1 (eT ceSight) (fun x0 => (F_kc0 x0).map (res1 rB).enc)
theorem cc_kc0 : CallC Tryz.prog 81 M_kc0 := pk_kc0.2
theorem en_kca : Enters Tryz.prog 84 := ⟨_, Tryz.func84, rfl, rfl⟩
def ty_kca : List (Nat × TI) := [ti94, ti100, ti3, ti23]
noncomputable def C_kca : Cfg := mkC ty_kca [] [(123, M_k0b)] [123] [] [] [] []
theorem E_kca : Env1 Tryz.prog C_kca := mkC_ok (by kernel_rfl) (⟨⟨en_k0b, cc_k0b⟩, trivial⟩) (by kernel_rfl)
theorem c_task_shard : CIs (C_kca) ty_kca [] [(123, M_k0b)] [123] [123] [] [] [] [] [] [] := ⟨rfl, rfl, rfl, rfl, rfl, rfl, rfl, rfl, rfl, rfl, rfl⟩
set_option maxHeartbeats 20000000 in
set_option maxRecDepth 100000 in
noncomputable def pk_kca : { F : Task → Sight → Option (Int) // CallC Tryz.prog 84 (con2 (eT ceTask) (eT ceSight) (fun x0 x1 => (F x0 x1).map (res1 rI).enc)) } :=
  ⟨_, cc2 E_kca Tryz.func84 rfl rfl (T := []) (G := []) (r := (res1 rI)) fun x0 x1 => by
    unfold Wf
    simp (maxSteps := 10000000) (implicitDefEqProofs := false) [ty_kca, c_task_shard, Tryz.f84, M_k0b, iC, uC, bC, sC, Acc.c, Config.c, Event.c, Op.c, Plan.c, Pot.c, Result.c, Shard.c, Sight.c, Task.c, Tx.c]
    try rfl⟩
noncomputable def F_kca : Task → Sight → Option (Int) := pk_kca.1
noncomputable def M_kca : List DA → Option (List RV) := con2 (eT ceTask) (eT ceSight) (fun x0 x1 => (F_kca x0 x1).map (res1 rI).enc)
theorem cc_kca : CallC Tryz.prog 84 M_kca := pk_kca.2
theorem en_kbf : Enters Tryz.prog 49 := ⟨_, Tryz.func49, rfl, rfl⟩
def ty_kbf : List (Nat × TI) := [ti94, ti100, ti3, ti96]
noncomputable def C_kbf : Cfg := mkC ty_kbf [] [(81, M_kc0), (84, M_kca), (85, M_k35)] [81, 84, 85] [] [] [] []
theorem E_kbf : Env1 Tryz.prog C_kbf := mkC_ok (by kernel_rfl) (⟨⟨en_kc0, cc_kc0⟩, ⟨⟨en_kca, cc_kca⟩, ⟨⟨en_k35, cc_k35⟩, trivial⟩⟩⟩) (by kernel_rfl)
theorem c_task_Able : CIs (C_kbf) ty_kbf [] [(81, M_kc0), (84, M_kca), (85, M_k35)] [81, 84, 85] [81, 84, 85] [] [] [] [] [] [] := ⟨rfl, rfl, rfl, rfl, rfl, rfl, rfl, rfl, rfl, rfl, rfl⟩
set_option maxHeartbeats 20000000 in
set_option maxRecDepth 100000 in
noncomputable def pk_kbf : { F : Task → Int → Sight → Option (Bool) // CallC Tryz.prog 49 (con3 (eT ceTask) eInt (eT ceSight) (fun x0 x1 x2 => (F x0 x1 x2).map (res1 rB).enc)) } :=
  ⟨_, cc3 E_kbf Tryz.func49 rfl rfl (T := []) (G := []) (r := (res1 rB)) fun x0 x1 x2 => by
    unfold Wf
    simp (maxSteps := 10000000) (implicitDefEqProofs := false) [ty_kbf, c_task_Able, Tryz.f49, M_kc0, M_kca, M_k35, iC, uC, bC, sC, Acc.c, Config.c, Event.c, Op.c, Plan.c, Pot.c, Result.c, Shard.c, Sight.c, Task.c, Tx.c]
    try rfl⟩
noncomputable def F_kbf : Task → Int → Sight → Option (Bool) := pk_kbf.1
noncomputable def M_kbf : List DA → Option (List RV) := con3 (eT ceTask) eInt (eT ceSight) (fun x0 x1 x2 => (F_kbf x0 x1 x2).map (res1 rB).enc)
theorem cc_kbf : CallC Tryz.prog 49 M_kbf := pk_kbf.2

end Go.Vm

/- What Go functions come to, as Lean functions: each with its contract. -/
set_option linter.unusedVariables false
set_option linter.unusedSimpArgs false
namespace Go.Vm
open Go Go.RowKit Go.Proofs
attribute [-simp] env0 envI evOps evOne evOp evIndexAddr evIndex evPick binV evLoad evStore loadC callV nilC storeC toDVs toDAs resRs
attribute [local simp] List.lookup List.replicate List.range_succ env0_tree envI_tree

theorem en_ka0 : Enters Tryz.prog 44 := ⟨_, Tryz.func44, rfl, rfl⟩
def ty_ka0 : List (Nat × TI) := [ti90, ti23, ti85, ti3, ti88, ti87, ti63]
noncomputable def C_ka0 : Cfg := mkC ty_ka0 [] [(20, M_k8a), (79, M_k7a)] [20, 79] [] [1,3,4] [] [(7, [true, false, true, true, false, true, true, true, true, true, true, true, true, true, false, true, true])]
theorem E_ka0 : Env1 Tryz.prog C_ka0 := mkC_ok (by kernel_rfl) (⟨⟨en_k8a, cc_k8a⟩, ⟨⟨en_k7a, cc_k7a⟩, trivial⟩⟩) (by kernel_rfl)
theorem c_r16_May : CIs (C_ka0) ty_ka0 [] [(20, M_k8a), (79, M_k7a)] [20, 79] [20, 79] [] [1,3,4] [] [(7, [true, false, true, true, false, true, true, true, true, true, true, true, true, true, false, true, true])] [] [] := ⟨rfl, rfl, rfl, rfl, rfl, rfl, rfl, rfl, rfl, rfl, rfl⟩
structure L_ka0_0 where
  i : Int
  s_ : Sight
  c : Config
def an_ka0_0 : Ann := mkAnn (σ := L_ka0_0) (lSkip vUnk <| lSkip (vOne (cPtr 0 0 0)) <| lSkip vUnk <| lSkip (vOne (cPtr 1 0 0)) <| lCons (vOne cI) <| K64 <| lSkip vUnk <| lSkip vUnk <|  lNil) (lCons (oBox 90 (cStr ceSight)) <| lCons (oBox 23 (cStr ceConfig)) <|  lNil)
  (fun a b => L_ka0_0.mk (a.1) (b.1) (b.2.1)) (fun s => (s.i, ())) (fun s => (s.s_, s.c, ())) (fun a b => true) (fun _ _ _ => ⟨rfl, rfl⟩)
theorem an_ka0_0_c (C : Cfg) : an_ka0_0.c C = C := rfl
set_option maxRecDepth 100000 in
theorem an_ka0_0_st (s : an_ka0_0.σ) : an_ka0_0.st s = (toL 71 (.node (.node (.node (.node (.node (.node (.node (.node (.leaf (.unk)) (.leaf (.v (.one (.ptr 0 0 0))))) (.node (.leaf (.unk)) (.leaf (.v (.one (.ptr 1 0 0)))))) (.node (.node (.leaf (.v (.one (.d (.sc (.int .i64 (L_ka0_0.i s))))))) (.leaf (.unk))) (.leaf (.unk)))) (.leaf (.unk))) (.leaf (.unk))) (.leaf (.unk))) (.leaf (.unk))) (.leaf (.unk))), [.box 90 (ddv (Sight.c (L_ka0_0.s_ s))), .box 23 (ddv (Config.c (L_ka0_0.c s)))]) := rfl
set_option maxHeartbeats 4000000 in
set_option maxRecDepth 100000 in
theorem an_ka0_0_un {β : Type} (i : Int) (p_s_ : List CV) (p_c : List CV) (f_ : an_ka0_0.σ → Option β) : (an_ka0_0.un (.unk :: .v (.one (.ptr 0 0 0)) :: .unk :: .v (.one (.ptr 1 0 0)) :: .v (.one (.d (.sc (.int .i64 i)))) :: U64 (.unk :: .unk :: [])) [.box 90 p_s_, .box 23 p_c]).bind f_ = ((allD p_s_).bind dSight).bind fun s_ => ((allD p_c).bind dConfig).bind fun c => f_ (L_ka0_0.mk i s_ c) :=
  (mkAnn_un (σ := L_ka0_0) _ _ _ _ _ _ _ _ _ f_).trans (by simp (maxSteps := 10000000) [Option.bind_assoc, U8, U64, K8, K64])
def T_ka0 : List (Nat × LoopA) := [(0, .ty an_ka0_0)]
set_option maxHeartbeats 20000000 in
set_option maxRecDepth 100000 in
noncomputable def pk_ka0 : { F : Sight → Option (Bool) // CallC Tryz.prog 44 (con1 (eT ceSight) (fun x0 => (F x0).map (res1 rB).enc)) } :=
  ⟨_, cc1 E_ka0 Tryz.func44 rfl rfl (T := T_ka0) (G := []) (r := (res1 rB)) fun x0 => by
    unfold Wf
    simp (maxSteps := 10000000) (implicitDefEqProofs := false) [ty_ka0, c_r16_May, T_ka0, Tryz.f44, M_k8a, M_k7a, an_ka0_0_st, an_ka0_0_un, an_ka0_0_c, iC, uC, bC, sC, Acc.c, Config.c, Pot.c, Shard.c, Sight.c, Tx.c]
    try rfl⟩
noncomputable def F_ka0 : Sight → Option (Bool) := pk_ka0.1
noncomputable def M_ka0 : List DA → Option (List RV) := con1 (eT ceSight) (fun x0 => (F_ka0 x0).map (res1 rB).enc)
theorem cc_ka0 : CallC Tryz.prog 44 M_ka0 := pk_ka0.2

end Go.Vm
