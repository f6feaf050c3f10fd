/- What Go functions come to, as Lean functions: each with its contract. -/
import Derived.Test.YtaidpcnnggknnaaGreatVd
import Derived.Test.YtaidpcnnggknnaaGreatK
import Derived.Test.YtaidpcnnggknnaaGreatYa
import Derived.Test.YtaidpcnnggknnaaGreatProg

set_option linter.unusedVariables false
set_option linter.unusedSimpArgs false
namespace Go.Vm
open Go Go.RowKit Go.Proofs
attribute [-simp] env0 envI evOps evOne evOp evIndexAddr evIndex evPick binV evLoad evStore loadC callV nilC storeC toDVs toDAs resRs
attribute [local simp] List.lookup List.replicate List.range_succ env0_tree envI_tree

theorem en_kb0 : Enters Tryz.prog 163 := ⟨_, Tryz.func163, rfl, rfl⟩
def ty_kb0 : List (Nat × TI) := [ti24, ti65]
noncomputable def C_kb0 : Cfg := mkC ty_kb0 [] [] [] [(2, [(0, 65, 3)])] [] [0] []
theorem E_kb0 : Env1 Tryz.prog C_kb0 := mkC_ok (by kernel_rfl) trivial (by kernel_rfl)
theorem c_slices_Clone_Acc : CIs (C_kb0) ty_kb0 [] [] [] [] [(2, [(0, 65, 3)])] [] [0] [] [] [] := ⟨rfl, rfl, rfl, rfl, rfl, rfl, rfl, rfl, rfl, rfl, rfl⟩
set_option maxHeartbeats 20000000 in
set_option maxRecDepth 100000 in
noncomputable def pk_kb0 : { F : (List Acc) → Option ((List Acc)) // CallC Tryz.prog 163 (con1 (eL ceAcc) (fun x0 => (F x0).map (res1 (rOwn 65 3 ceAcc)).enc)) } :=
  ⟨_, cc1 E_kb0 Tryz.func163 rfl rfl (T := []) (G := []) (r := (res1 (rOwn 65 3 ceAcc))) fun x0 => by
    unfold Wf
    simp (maxSteps := 10000000) (implicitDefEqProofs := false) [ty_kb0, c_slices_Clone_Acc, Tryz.f163, iC, uC, bC, sC, Acc.c, Tx.c]
    try rfl⟩
noncomputable def F_kb0 : (List Acc) → Option ((List Acc)) := pk_kb0.1
noncomputable def M_kb0 : List DA → Option (List RV) := con1 (eL ceAcc) (fun x0 => (F_kb0 x0).map (res1 (rOwn 65 3 ceAcc)).enc)
theorem cc_kb0 : CallC Tryz.prog 163 M_kb0 := pk_kb0.2
theorem en_kab : Enters Tryz.prog 164 := ⟨_, Tryz.func164, rfl, rfl⟩
def ty_kab : List (Nat × TI) := [ti65, ti3]
noncomputable def C_kab : Cfg := mkC ty_kab [] [] [] [] [3] [] []
theorem E_kab : Env1 Tryz.prog C_kab := mkC_ok (by kernel_rfl) trivial (by kernel_rfl)
theorem c_shard_Set1 : CIs (C_kab) ty_kab [] [] [] [] [] [3] [] [] [] [] := ⟨rfl, rfl, rfl, rfl, rfl, rfl, rfl, rfl, rfl, rfl, rfl⟩
noncomputable def I_kab : List V1 → Objs → Option (TV × Objs) := Wi C_kab [] [] Tryz.f164
theorem ic_kab : InlC Tryz.prog 164 I_kab := inlC_of_W E_kab Tryz.func164 rfl rfl
theorem en_kac : Enters Tryz.prog 166 := ⟨_, Tryz.func166, rfl, rfl⟩
def ty_kac : List (Nat × TI) := [ti65, ti3]
noncomputable def C_kac : Cfg := mkC ty_kac [] [] [] [] [3] [] []
theorem E_kac : Env1 Tryz.prog C_kac := mkC_ok (by kernel_rfl) trivial (by kernel_rfl)
theorem c_shard_Set2 : CIs (C_kac) ty_kac [] [] [] [] [] [3] [] [] [] [] := ⟨rfl, rfl, rfl, rfl, rfl, rfl, rfl, rfl, rfl, rfl, rfl⟩
noncomputable def I_kac : List V1 → Objs → Option (TV × Objs) := Wi C_kac [] [] Tryz.f166
theorem ic_kac : InlC Tryz.prog 166 I_kac := inlC_of_W E_kac Tryz.func166 rfl rfl
theorem en_kb6 : Enters Tryz.prog 165 := ⟨_, Tryz.func165, rfl, rfl⟩
def ty_kb6 : List (Nat × TI) := [ti24, ti3, ti65]
noncomputable def C0_kb6 : Cfg := mkC ty_kb6 [] [] [] [] [0,1,4,7,8] [] []
noncomputable def C_kb6 : Cfg := mkI C0_kb6 [(164, I_kab), (166, I_kac)]
theorem E0_kb6 : Env1 Tryz.prog C0_kb6 := mkC_ok (by kernel_rfl) trivial (by kernel_rfl)
theorem E_kb6 : Env1 Tryz.prog C_kb6 := mkI_ok E0_kb6 (⟨⟨en_kab, ic_kab⟩, ⟨⟨en_kac, ic_kac⟩, trivial⟩⟩)
theorem c_slices_IndexFunc_Acc : CIs (C_kb6) ty_kb6 [] [] [] [] [] [0,1,4,7,8] [] [] [] [164, 166] := ⟨rfl, rfl, rfl, rfl, rfl, rfl, rfl, rfl, rfl, rfl, rfl⟩
theorem ci_slices_IndexFunc_Acc : CIl C_kb6 [(164, I_kab), (166, I_kac)] := rfl
structure L_kb6_0 where
  v4 : Int
  v7 : Int
  v8 : Int
  o0 : Shard
  o1 : Acc
  version : Int
  s_ : List Acc
  o4 : List Acc
def an_kb6_0 : Ann := mkAnn (σ := L_kb6_0) (lCons (vOne (cOwn 3)) <| lSkip (vOne (cClo 164 [] [(1, 0)])) <| lSkip vUnk <| lSkip vUnk <| lCons (vOne cI) <| lSkip vUnk <| lSkip vUnk <| lCons (vOne cI) <| lCons (vOne cI) <| K8 <| lSkip vUnk <| lSkip vUnk <|  lNil) (lCons (oBox 113 (cStr ceShard)) <| lCons (oBox 65 (cStr ceAcc)) <| lCons (oBox 113 (lSkip cNil <| lCons cI <|  lNil)) <| lCons (oArr 65 3 ceAcc) <| lCons (oArr 65 3 ceAcc) <|  lNil)
  (fun a b => L_kb6_0.mk (a.2.1) (a.2.2.1) (a.2.2.2.1) (b.1) (b.2.1) (b.2.2.1.1) (b.2.2.2.1) (b.2.2.2.2.1)) (fun s => (s.s_.length, s.v4, s.v7, s.v8, ())) (fun s => (s.o0, s.o1, (s.version, ()), s.s_, s.o4, ())) (fun a b => decide (a.1 = (b.2.2.2.1).length)) (by rintro ⟨a0, a1, a2, a3, _⟩ ⟨b0, b1, ⟨c2_0, _⟩, b3, b4, _⟩ h; simp at h; simp [h])
theorem an_kb6_0_c (C : Cfg) : an_kb6_0.c C = C := rfl
set_option maxRecDepth 100000 in
theorem an_kb6_0_st (s : an_kb6_0.σ) : an_kb6_0.st s = (toL 19 (.node (.node (.node (.node (.node (.node (.node (.node (.leaf (.v (.one (.own 3 (L_kb6_0.s_ s).length)))) (.leaf (.v (.one (.clo 164 [] [(1, 0)]))))) (.leaf (.unk))) (.node (.node (.leaf (.v (.one (.d (.sc (.int .i64 (L_kb6_0.v4 s))))))) (.leaf (.unk))) (.node (.leaf (.unk)) (.leaf (.v (.one (.d (.sc (.int .i64 (L_kb6_0.v7 s)))))))))) (.node (.node (.node (.leaf (.v (.one (.d (.sc (.int .i64 (L_kb6_0.v8 s))))))) (.leaf (.unk))) (.leaf (.unk))) (.leaf (.unk)))) (.leaf (.unk))) (.leaf (.unk))) (.leaf (.unk))) (.leaf (.unk))), [.box 113 (ddv (Shard.c (L_kb6_0.o0 s))), .box 65 (ddv (Acc.c (L_kb6_0.o1 s))), .box 113 [.nil, .d (.sc (.int .i64 (L_kb6_0.version s)))], .arr 65 3 ((L_kb6_0.s_ s).map Acc.c), .arr 65 3 ((L_kb6_0.o4 s).map Acc.c)]) := rfl
set_option maxHeartbeats 4000000 in
set_option maxRecDepth 100000 in
theorem an_kb6_0_un {β : Type} (m1_s_ : Nat) (v4 : Int) (v7 : Int) (v8 : Int) (p_o0 : List CV) (p_o1 : List CV) (version : Int) (p_s_ : List (List DV)) (p_o4 : List (List DV)) (f_ : an_kb6_0.σ → Option β) : (an_kb6_0.un (.v (.one (.own 3 m1_s_)) :: .v (.one (.clo 164 [] [(1, 0)])) :: .unk :: .unk :: .v (.one (.d (.sc (.int .i64 v4)))) :: .unk :: .unk :: .v (.one (.d (.sc (.int .i64 v7)))) :: .v (.one (.d (.sc (.int .i64 v8)))) :: U8 (.unk :: .unk :: [])) [.box 113 p_o0, .box 65 p_o1, .box 113 [.nil, .d (.sc (.int .i64 version))], .arr 65 3 p_s_, .arr 65 3 p_o4]).bind f_ = ((allD p_o0).bind dShard).bind fun o0 => ((allD p_o1).bind dAcc).bind fun o1 => (decL dAcc p_s_).bind fun s_ => (decL dAcc p_o4).bind fun o4 => (if m1_s_ = s_.length then f_ (L_kb6_0.mk v4 v7 v8 o0 o1 version s_ o4) else none) :=
  (mkAnn_un (σ := L_kb6_0) _ _ _ _ _ _ _ _ _ f_).trans (by simp (maxSteps := 10000000) [Option.bind_assoc, U8, U64, K8, K64, bind_ite])
def T_kb6 : List (Nat × LoopA) := [(0, .tr an_kb6_0)]
noncomputable def I_kb6 : List V1 → Objs → Option (TV × Objs) := Wi C_kb6 T_kb6 [] Tryz.f165
theorem ic_kb6 : InlC Tryz.prog 165 I_kb6 := inlC_of_W E_kb6 Tryz.func165 rfl rfl
theorem en_kb4 : Enters Tryz.prog 162 := ⟨_, Tryz.func162, rfl, rfl⟩
def ty_kb4 : List (Nat × TI) := [ti24, ti134, ti3, ti65]
noncomputable def C0_kb4 : Cfg := mkC ty_kb4 [] [] [165] [(4, [(0, 65, 3)])] [0,1,4,5,6] [] []
noncomputable def C_kb4 : Cfg := mkI C0_kb4 [(165, I_kb6), (164, I_kab), (166, I_kac)]
theorem E0_kb4 : Env1 Tryz.prog C0_kb4 := mkC_ok (by kernel_rfl) trivial (by kernel_rfl)
theorem E_kb4 : Env1 Tryz.prog C_kb4 := mkI_ok E0_kb4 (⟨⟨en_kb6, ic_kb6⟩, ⟨⟨en_kab, ic_kab⟩, ⟨⟨en_kac, ic_kac⟩, trivial⟩⟩⟩)
theorem c_slices_DeleteFunc_Acc : CIs (C_kb4) ty_kb4 [] [] [] [165] [(4, [(0, 65, 3)])] [0,1,4,5,6] [] [] [] [165, 164, 166] := ⟨rfl, rfl, rfl, rfl, rfl, rfl, rfl, rfl, rfl, rfl, rfl⟩
theorem ci_slices_DeleteFunc_Acc : CIl C_kb4 [(165, I_kb6), (164, I_kab), (166, I_kac)] := rfl
structure L_kb4_0 where
  i : Int
  j : Int
  o0 : Shard
  o1 : Acc
  version : Int
  s_ : List Acc
  v4 : List Acc
def an_kb4_0 : Ann := mkAnn (σ := L_kb4_0) (lCons (vOne (cOwn 3)) <| lSkip (vOne (cClo 164 [] [(1, 0)])) <| lSkip vUnk <| lSkip vUnk <| lCons (vOne (cOwn 4)) <| lCons (vOne cI) <| lCons (vOne cI) <| K8 <| K8 <| K8 <| K8 <| lSkip vUnk <| lSkip vUnk <| lSkip vUnk <|  lNil) (lCons (oBox 113 (cStr ceShard)) <| lCons (oBox 65 (cStr ceAcc)) <| lCons (oBox 113 (lSkip cNil <| lCons cI <|  lNil)) <| lCons (oArr 65 3 ceAcc) <| lCons (oArr 65 3 ceAcc) <|  lNil)
  (fun a b => L_kb4_0.mk (a.2.2.1) (a.2.2.2.1) (b.1) (b.2.1) (b.2.2.1.1) (b.2.2.2.1) (b.2.2.2.2.1)) (fun s => (s.s_.length, s.v4.length, s.i, s.j, ())) (fun s => (s.o0, s.o1, (s.version, ()), s.s_, s.v4, ())) (fun a b => decide (a.1 = (b.2.2.2.1).length) && decide (a.2.1 = (b.2.2.2.2.1).length)) (by rintro ⟨a0, a1, a2, a3, _⟩ ⟨b0, b1, ⟨c2_0, _⟩, b3, b4, _⟩ h; simp at h; simp [h])
theorem an_kb4_0_c (C : Cfg) : an_kb4_0.c C = C := rfl
set_option maxRecDepth 100000 in
theorem an_kb4_0_st (s : an_kb4_0.σ) : an_kb4_0.st s = (toL 42 (.node (.node (.node (.node (.node (.node (.node (.node (.leaf (.v (.one (.own 3 (L_kb4_0.s_ s).length)))) (.leaf (.v (.one (.clo 164 [] [(1, 0)]))))) (.leaf (.unk))) (.node (.node (.leaf (.v (.one (.own 4 (L_kb4_0.v4 s).length)))) (.leaf (.v (.one (.d (.sc (.int .i64 (L_kb4_0.i s)))))))) (.node (.leaf (.v (.one (.d (.sc (.int .i64 (L_kb4_0.j s))))))) (.leaf (.unk))))) (.leaf (.unk))) (.leaf (.unk))) (.leaf (.unk))) (.leaf (.unk))) (.leaf (.unk))), [.box 113 (ddv (Shard.c (L_kb4_0.o0 s))), .box 65 (ddv (Acc.c (L_kb4_0.o1 s))), .box 113 [.nil, .d (.sc (.int .i64 (L_kb4_0.version s)))], .arr 65 3 ((L_kb4_0.s_ s).map Acc.c), .arr 65 3 ((L_kb4_0.v4 s).map Acc.c)]) := rfl
set_option maxHeartbeats 4000000 in
set_option maxRecDepth 100000 in
theorem an_kb4_0_un {β : Type} (m1_s_ : Nat) (m2_v4 : Nat) (i : Int) (j : Int) (p_o0 : List CV) (p_o1 : List CV) (version : Int) (p_s_ : List (List DV)) (p_v4 : List (List DV)) (f_ : an_kb4_0.σ → Option β) : (an_kb4_0.un (.v (.one (.own 3 m1_s_)) :: .v (.one (.clo 164 [] [(1, 0)])) :: .unk :: .unk :: .v (.one (.own 4 m2_v4)) :: .v (.one (.d (.sc (.int .i64 i)))) :: .v (.one (.d (.sc (.int .i64 j)))) :: U8 (U8 (U8 (U8 (.unk :: .unk :: .unk :: []))))) [.box 113 p_o0, .box 65 p_o1, .box 113 [.nil, .d (.sc (.int .i64 version))], .arr 65 3 p_s_, .arr 65 3 p_v4]).bind f_ = ((allD p_o0).bind dShard).bind fun o0 => ((allD p_o1).bind dAcc).bind fun o1 => (decL dAcc p_s_).bind fun s_ => (decL dAcc p_v4).bind fun v4 => (if m1_s_ = s_.length ∧ m2_v4 = v4.length then f_ (L_kb4_0.mk i j o0 o1 version s_ v4) else none) :=
  (mkAnn_un (σ := L_kb4_0) _ _ _ _ _ _ _ _ _ f_).trans (by simp (maxSteps := 10000000) [Option.bind_assoc, U8, U64, K8, K64, bind_ite])
def T_kb4 : List (Nat × LoopA) := [(0, .tr an_kb4_0)]
noncomputable def I_kb4 : List V1 → Objs → Option (TV × Objs) := cutI (Wi C_kb4 T_kb4 [] Tryz.f162)
theorem ic_kb4 : InlC Tryz.prog 162 I_kb4 := cutI_ok (inlC_of_W E_kb4 Tryz.func162 rfl rfl)
theorem en_kb7 : Enters Tryz.prog 165 := ⟨_, Tryz.func165, rfl, rfl⟩
def ty_kb7 : List (Nat × TI) := [ti24, ti3, ti65]
noncomputable def C0_kb7 : Cfg := mkC ty_kb7 [] [] [] [] [0,1,4,7,8] [] []
noncomputable def C_kb7 : Cfg := mkI C0_kb7 [(164, I_kab), (166, I_kac)]
theorem E0_kb7 : Env1 Tryz.prog C0_kb7 := mkC_ok (by kernel_rfl) trivial (by kernel_rfl)
theorem E_kb7 : Env1 Tryz.prog C_kb7 := mkI_ok E0_kb7 (⟨⟨en_kab, ic_kab⟩, ⟨⟨en_kac, ic_kac⟩, trivial⟩⟩)
theorem c_slices_IndexFunc_Acc2 : CIs (C_kb7) ty_kb7 [] [] [] [] [] [0,1,4,7,8] [] [] [] [164, 166] := ⟨rfl, rfl, rfl, rfl, rfl, rfl, rfl, rfl, rfl, rfl, rfl⟩
theorem ci_slices_IndexFunc_Acc2 : CIl C_kb7 [(164, I_kab), (166, I_kac)] := rfl
structure L_kb7_0 where
  v4 : Int
  v7 : Int
  v8 : Int
  o0 : Shard
  o1 : Acc
  version : Int
  o4 : List Acc
  s_ : List Acc
def an_kb7_0 : Ann := mkAnn (σ := L_kb7_0) (lCons (vOne (cOwn 5)) <| lSkip (vOne (cClo 166 [] [(1, 0)])) <| lSkip vUnk <| lSkip vUnk <| lCons (vOne cI) <| lSkip vUnk <| lSkip vUnk <| lCons (vOne cI) <| lCons (vOne cI) <| K8 <| lSkip vUnk <| lSkip vUnk <|  lNil) (lCons (oBox 113 (cStr ceShard)) <| lCons (oBox 65 (cStr ceAcc)) <| lCons (oBox 113 (lSkip cNil <| lCons cI <|  lNil)) <| lSkip oNil <| lCons (oArr 65 3 ceAcc) <| lCons (oArr 65 3 ceAcc) <|  lNil)
  (fun a b => L_kb7_0.mk (a.2.1) (a.2.2.1) (a.2.2.2.1) (b.1) (b.2.1) (b.2.2.1.1) (b.2.2.2.1) (b.2.2.2.2.1)) (fun s => (s.s_.length, s.v4, s.v7, s.v8, ())) (fun s => (s.o0, s.o1, (s.version, ()), s.o4, s.s_, ())) (fun a b => decide (a.1 = (b.2.2.2.2.1).length)) (by rintro ⟨a0, a1, a2, a3, _⟩ ⟨b0, b1, ⟨c2_0, _⟩, b3, b4, _⟩ h; simp at h; simp [h])
theorem an_kb7_0_c (C : Cfg) : an_kb7_0.c C = C := rfl
set_option maxRecDepth 100000 in
theorem an_kb7_0_st (s : an_kb7_0.σ) : an_kb7_0.st s = (toL 19 (.node (.node (.node (.node (.node (.node (.node (.node (.leaf (.v (.one (.own 5 (L_kb7_0.s_ s).length)))) (.leaf (.v (.one (.clo 166 [] [(1, 0)]))))) (.leaf (.unk))) (.node (.node (.leaf (.v (.one (.d (.sc (.int .i64 (L_kb7_0.v4 s))))))) (.leaf (.unk))) (.node (.leaf (.unk)) (.leaf (.v (.one (.d (.sc (.int .i64 (L_kb7_0.v7 s)))))))))) (.node (.node (.node (.leaf (.v (.one (.d (.sc (.int .i64 (L_kb7_0.v8 s))))))) (.leaf (.unk))) (.leaf (.unk))) (.leaf (.unk)))) (.leaf (.unk))) (.leaf (.unk))) (.leaf (.unk))) (.leaf (.unk))), [.box 113 (ddv (Shard.c (L_kb7_0.o0 s))), .box 65 (ddv (Acc.c (L_kb7_0.o1 s))), .box 113 [.nil, .d (.sc (.int .i64 (L_kb7_0.version s)))], .nil, .arr 65 3 ((L_kb7_0.o4 s).map Acc.c), .arr 65 3 ((L_kb7_0.s_ s).map Acc.c)]) := rfl
set_option maxHeartbeats 4000000 in
set_option maxRecDepth 100000 in
theorem an_kb7_0_un {β : Type} (m1_s_ : Nat) (v4 : Int) (v7 : Int) (v8 : Int) (p_o0 : List CV) (p_o1 : List CV) (version : Int) (p_o4 : List (List DV)) (p_s_ : List (List DV)) (f_ : an_kb7_0.σ → Option β) : (an_kb7_0.un (.v (.one (.own 5 m1_s_)) :: .v (.one (.clo 166 [] [(1, 0)])) :: .unk :: .unk :: .v (.one (.d (.sc (.int .i64 v4)))) :: .unk :: .unk :: .v (.one (.d (.sc (.int .i64 v7)))) :: .v (.one (.d (.sc (.int .i64 v8)))) :: U8 (.unk :: .unk :: [])) [.box 113 p_o0, .box 65 p_o1, .box 113 [.nil, .d (.sc (.int .i64 version))], .nil, .arr 65 3 p_o4, .arr 65 3 p_s_]).bind f_ = ((allD p_o0).bind dShard).bind fun o0 => ((allD p_o1).bind dAcc).bind fun o1 => (decL dAcc p_o4).bind fun o4 => (decL dAcc p_s_).bind fun s_ => (if m1_s_ = s_.length then f_ (L_kb7_0.mk v4 v7 v8 o0 o1 version o4 s_) else none) :=
  (mkAnn_un (σ := L_kb7_0) _ _ _ _ _ _ _ _ _ f_).trans (by simp (maxSteps := 10000000) [Option.bind_assoc, U8, U64, K8, K64, bind_ite])
def T_kb7 : List (Nat × LoopA) := [(0, .tr an_kb7_0)]
noncomputable def I_kb7 : List V1 → Objs → Option (TV × Objs) := Wi C_kb7 T_kb7 [] Tryz.f165
theorem ic_kb7 : InlC Tryz.prog 165 I_kb7 := inlC_of_W E_kb7 Tryz.func165 rfl rfl
theorem en_kaa : Enters Tryz.prog 132 := ⟨_, Tryz.func132, rfl, rfl⟩
def ty_kaa : List (Nat × TI) := [ti113, ti65, ti24, ti134, ti3]
noncomputable def C0_kaa : Cfg := mkC ty_kaa [] [(163, M_kb0), (154, M_kaf)] [154, 165] [] [] [] []
noncomputable def C_kaa : Cfg := mkI C0_kaa [(162, I_kb4), (165, I_kb7), (167, I_kb9)]
theorem E0_kaa : Env1 Tryz.prog C0_kaa := mkC_ok (by kernel_rfl) (⟨⟨en_kb0, cc_kb0⟩, ⟨⟨en_kaf, cc_kaf⟩, trivial⟩⟩) (by kernel_rfl)
theorem E_kaa : Env1 Tryz.prog C_kaa := mkI_ok E0_kaa (⟨⟨en_kb4, ic_kb4⟩, ⟨⟨en_kb7, ic_kb7⟩, ⟨⟨en_kb9, ic_kb9⟩, trivial⟩⟩⟩)
theorem c_shard_Set : CIs (C_kaa) ty_kaa [] [(163, M_kb0), (154, M_kaf)] [163, 154] [154, 165] [] [] [] [] [] [162, 165, 167] := ⟨rfl, rfl, rfl, rfl, rfl, rfl, rfl, rfl, rfl, rfl, rfl⟩
theorem ci_shard_Set : CIl C_kaa [(162, I_kb4), (165, I_kb7), (167, I_kb9)] := rfl
set_option maxHeartbeats 20000000 in
set_option maxRecDepth 100000 in
noncomputable def pk_kaa : { F : Shard → Acc → Option (Shard) // CallC Tryz.prog 132 (con2 (eT ceShard) (eT ceAcc) (fun x0 x1 => (F x0 x1).map (res1 (rAgg ceShard)).enc)) } :=
  ⟨_, cc2 E_kaa Tryz.func132 rfl rfl (T := []) (G := []) (r := (res1 (rAgg ceShard))) fun x0 x1 => by
    unfold Wf
    simp (maxSteps := 10000000) (implicitDefEqProofs := false) [ty_kaa, c_shard_Set, ci_shard_Set, Tryz.f132, M_kb0, M_kaf, iC, uC, bC, sC, Acc.c, Shard.c, Tx.c, ty_kb4, c_slices_DeleteFunc_Acc, ci_slices_DeleteFunc_Acc, T_kb4, Tryz.f162, an_kb4_0_st, an_kb4_0_un, an_kb4_0_c, ty_kb6, c_slices_IndexFunc_Acc, ci_slices_IndexFunc_Acc, T_kb6, Tryz.f165, an_kb6_0_st, an_kb6_0_un, an_kb6_0_c, ty_kab, c_shard_Set1, Tryz.f164, I_kab, Wi, ty_kac, c_shard_Set2, Tryz.f166, I_kac, mkI, I_kb6, I_kb4, cutI, ty_kb7, c_slices_IndexFunc_Acc2, ci_slices_IndexFunc_Acc2, T_kb7, an_kb7_0_st, an_kb7_0_un, an_kb7_0_c, I_kb7, I_kb9, mkI]
    try rfl⟩
noncomputable def F_kaa : Shard → Acc → Option (Shard) := pk_kaa.1
noncomputable def M_kaa : List DA → Option (List RV) := con2 (eT ceShard) (eT ceAcc) (fun x0 x1 => (F_kaa x0 x1).map (res1 (rAgg ceShard)).enc)
theorem cc_kaa : CallC Tryz.prog 132 M_kaa := pk_kaa.2

end Go.Vm
