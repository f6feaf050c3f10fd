/- What Go functions come to, as Lean functions: each with its contract. -/
import Derived.Test.YtaidpcnnggknnaaGreatK
import Derived.Test.YtaidpcnnggknnaaGreatVd
import Derived.Test.YtaidpcnnggknnaaGreatProg
import Derived.Test.YtaidpcnnggknnaaGreatWa

set_option linter.unusedVariables false
set_option linter.unusedSimpArgs false
namespace Go.Vm
open Go Go.RowKit Go.Proofs
attribute [-simp] env0 envI evOps evOne evOp evIndexAddr evIndex evPick binV evLoad evStore loadC callV nilC storeC toDVs toDAs resRs
attribute [local simp] List.lookup List.replicate List.range_succ env0_tree envI_tree

theorem en_k01 : Enters Tryz.prog 190 := ⟨_, Tryz.func190, rfl, rfl⟩
def ty_k01 : List (Nat × TI) := [ti235, ti237, ti165, ti9, ti5]
noncomputable def C0_k01 : Cfg := mkC ty_k01 [] [] [203] [] [4,5] [] []
noncomputable def C_k01 : Cfg := mkI C0_k01 [(203, I_k02)]
theorem E0_k01 : Env1 Tryz.prog C0_k01 := mkC_ok (by kernel_rfl) trivial (by kernel_rfl)
theorem E_k01 : Env1 Tryz.prog C_k01 := mkI_ok E0_k01 (⟨⟨en_k02, ic_k02⟩, trivial⟩)
theorem c_bld_WriteString : CIs (C_k01) ty_k01 [] [] [] [203] [] [4,5] [] [] [] [203] := ⟨rfl, rfl, rfl, rfl, rfl, rfl, rfl, rfl, rfl, rfl, rfl⟩
theorem ci_bld_WriteString : CIl C_k01 [(203, I_k02)] := rfl
noncomputable def I_k01 : List V1 → Objs → Option (TV × Objs) := Wi C_k01 [] [] Tryz.f190
theorem ic_k01 : InlC Tryz.prog 190 I_k01 := inlC_of_W E_k01 Tryz.func190 rfl rfl
theorem en_k00 : Enters Tryz.prog 192 := ⟨_, Tryz.func192, rfl, rfl⟩
def ty_k00 : List (Nat × TI) := [ti237, ti165, ti247, ti3, ti5]
noncomputable def C_k00 : Cfg := mkC ty_k00 [] [] [] [] [2] [] [(1, [true, true, true, true, true, true, true, true, true, true, false, true])]
theorem E_k00 : Env1 Tryz.prog C_k00 := mkC_ok (by kernel_rfl) trivial (by kernel_rfl)
theorem c_bld_String : CIs (C_k00) ty_k00 [] [] [] [] [] [2] [] [(1, [true, true, true, true, true, true, true, true, true, true, false, true])] [] [] := ⟨rfl, rfl, rfl, rfl, rfl, rfl, rfl, rfl, rfl, rfl, rfl⟩
noncomputable def I_k00 : List V1 → Objs → Option (TV × Objs) := Wi C_k00 [] [] Tryz.f192
theorem ic_k00 : InlC Tryz.prog 192 I_k00 := inlC_of_W E_k00 Tryz.func192 rfl rfl

end Go.Vm

/- What Go functions come to, as Lean functions: each with its contract. -/
set_option linter.unusedVariables false
set_option linter.unusedSimpArgs false
namespace Go.Vm
open Go Go.RowKit Go.Proofs
attribute [-simp] env0 envI evOps evOne evOp evIndexAddr evIndex evPick binV evLoad evStore loadC callV nilC storeC toDVs toDAs resRs
attribute [local simp] List.lookup List.replicate List.range_succ env0_tree envI_tree

theorem en_kd0 : Enters Tryz.prog 173 := ⟨_, Tryz.func173, rfl, rfl⟩
def ty_kd0 : List (Nat × TI) := [ti31, ti237, ti9, ti3, ti189]
noncomputable def C0_kd0 : Cfg := mkC ty_kd0 [] [(102, M_kce), (150, M_k03), (191, M_k06)] [102, 150, 191, 192] [(4, [(1, 5, 1)])] [1,4,21,22] [] []
noncomputable def C_kd0 : Cfg := mkI C0_kd0 [(190, I_k01), (192, I_k00)]
theorem E0_kd0 : Env1 Tryz.prog C0_kd0 := mkC_ok (by kernel_rfl) (⟨⟨en_kce, cc_kce⟩, ⟨⟨en_k03, cc_k03⟩, ⟨⟨en_k06, cc_k06⟩, trivial⟩⟩⟩) (by kernel_rfl)
theorem E_kd0 : Env1 Tryz.prog C_kd0 := mkI_ok E0_kd0 (⟨⟨en_k01, ic_k01⟩, ⟨⟨en_k00, ic_k00⟩, trivial⟩⟩)
theorem c_txn_Encode : CIs (C_kd0) ty_kd0 [] [(102, M_kce), (150, M_k03), (191, M_k06)] [102, 150, 191] [102, 150, 191, 192] [(4, [(1, 5, 1)])] [1,4,21,22] [] [] [] [190, 192] := ⟨rfl, rfl, rfl, rfl, rfl, rfl, rfl, rfl, rfl, rfl, rfl⟩
theorem ci_txn_Encode : CIl C_kd0 [(190, I_k01), (192, I_k00)] := rfl
def T_kd0 : List (Nat × LoopA) := [(0, .un)]
set_option maxHeartbeats 20000000 in
set_option maxRecDepth 100000 in
noncomputable def pk_kd0 : { F : Tx → Option (ByteArray × Bool) // CallC Tryz.prog 173 (con1 (eT ceTx) (fun x0 => (F x0).map (res2 rS rB).enc)) } :=
  ⟨_, cc1 E_kd0 Tryz.func173 rfl rfl (T := T_kd0) (G := []) (r := (res2 rS rB)) fun x0 => by
    unfold Wf
    simp (maxSteps := 10000000) (implicitDefEqProofs := false) [ty_kd0, c_txn_Encode, ci_txn_Encode, T_kd0, Tryz.f173, M_kce, M_k03, M_k06, iC, uC, bC, sC, Tx.c, wrap64, Nat.add_assoc, ty_k01, c_bld_WriteString, ci_bld_WriteString, Tryz.f190, I_k02, mkI, I_k01, Wi, ty_k00, c_bld_String, Tryz.f192, I_k00, mkI]
    try rfl⟩
noncomputable def F_kd0 : Tx → Option (ByteArray × Bool) := pk_kd0.1
noncomputable def M_kd0 : List DA → Option (List RV) := con1 (eT ceTx) (fun x0 => (F_kd0 x0).map (res2 rS rB).enc)
theorem cc_kd0 : CallC Tryz.prog 173 M_kd0 := pk_kd0.2

end Go.Vm

/- What Go functions come to, as Lean functions: each with its contract. -/
set_option linter.unusedVariables false
set_option linter.unusedSimpArgs false
namespace Go.Vm
open Go Go.RowKit Go.Proofs
attribute [-simp] env0 envI evOps evOne evOp evIndexAddr evIndex evPick binV evLoad evStore loadC callV nilC storeC toDVs toDAs resRs
attribute [local simp] List.lookup List.replicate List.range_succ env0_tree envI_tree

theorem en_kd1 : Enters Tryz.prog 141 := ⟨_, Tryz.func141, rfl, rfl⟩
def ty_kd1 : List (Nat × TI) := [ti31, ti9, ti3]
noncomputable def C_kd1 : Cfg := mkC ty_kd1 [] [(173, M_kd0), (174, M_ka6)] [173, 174] [] [] [] []
theorem E_kd1 : Env1 Tryz.prog C_kd1 := mkC_ok (by kernel_rfl) (⟨⟨en_kd0, cc_kd0⟩, ⟨⟨en_ka6, cc_ka6⟩, trivial⟩⟩) (by kernel_rfl)
theorem c_txn_Slots : CIs (C_kd1) ty_kd1 [] [(173, M_kd0), (174, M_ka6)] [173, 174] [173, 174] [] [] [] [] [] [] := ⟨rfl, rfl, rfl, rfl, rfl, rfl, rfl, rfl, rfl, rfl, rfl⟩
set_option maxHeartbeats 20000000 in
set_option maxRecDepth 100000 in
noncomputable def pk_kd1 : { F : Tx → Option (Int) // CallC Tryz.prog 141 (con1 (eT ceTx) (fun x0 => (F x0).map (res1 rI).enc)) } :=
  ⟨_, cc1 E_kd1 Tryz.func141 rfl rfl (T := []) (G := []) (r := (res1 rI)) fun x0 => by
    unfold Wf
    simp (maxSteps := 10000000) (implicitDefEqProofs := false) [ty_kd1, c_txn_Slots, Tryz.f141, M_kd0, M_ka6, iC, uC, bC, sC, Tx.c]
    try rfl⟩
noncomputable def F_kd1 : Tx → Option (Int) := pk_kd1.1
noncomputable def M_kd1 : List DA → Option (List RV) := con1 (eT ceTx) (fun x0 => (F_kd1 x0).map (res1 rI).enc)
theorem cc_kd1 : CallC Tryz.prog 141 M_kd1 := pk_kd1.2
theorem en_k58 : Enters Tryz.prog 103 := ⟨_, Tryz.func103, rfl, rfl⟩
def ty_k58 : List (Nat × TI) := [ti65, ti32, ti3, ti31]
noncomputable def C_k58 : Cfg := mkC ty_k58 [] [(141, M_kd1)] [141] [] [3,7,8,9] [] []
theorem E_k58 : Env1 Tryz.prog C_k58 := mkC_ok (by kernel_rfl) (⟨⟨en_kd1, cc_kd1⟩, trivial⟩) (by kernel_rfl)
theorem c_queue_Slots : CIs (C_k58) ty_k58 [] [(141, M_kd1)] [141] [141] [] [3,7,8,9] [] [] [] [] := ⟨rfl, rfl, rfl, rfl, rfl, rfl, rfl, rfl, rfl, rfl, rfl⟩
structure L_k58_0 where
  n : Int
  v7 : List Tx
  v8 : Int
  v9 : Int
  o0 : Acc
def an_k58_0 : Ann := mkAnn (σ := L_k58_0) (lSkip vUnk <| lSkip vUnk <| lSkip vUnk <| lCons (vOne cI) <| lSkip vUnk <| lSkip vUnk <| lSkip vUnk <| lCons (vOne (cSl ceTx)) <| lCons (vOne cI) <| lCons (vOne cI) <| K8 <| lSkip vUnk <|  lNil) (lCons (oBox 65 (cStr ceAcc)) <|  lNil)
  (fun a b => L_k58_0.mk (a.1) (a.2.1) (a.2.2.1) (a.2.2.2.1) (b.1)) (fun s => (s.n, s.v7, s.v8, s.v9, ())) (fun s => (s.o0, ())) (fun a b => true) (fun _ _ _ => ⟨rfl, rfl⟩)
theorem an_k58_0_c (C : Cfg) : an_k58_0.c C = C := rfl
set_option maxRecDepth 100000 in
theorem an_k58_0_st (s : an_k58_0.σ) : an_k58_0.st s = (toL 19 (.node (.node (.node (.node (.node (.node (.node (.leaf (.unk)) (.node (.leaf (.unk)) (.leaf (.v (.one (.d (.sc (.int .i64 (L_k58_0.n s))))))))) (.node (.leaf (.unk)) (.node (.leaf (.unk)) (.leaf (.v (.one (.d (.sl ((L_k58_0.v7 s).map Tx.c))))))))) (.node (.node (.node (.leaf (.v (.one (.d (.sc (.int .i64 (L_k58_0.v8 s))))))) (.leaf (.v (.one (.d (.sc (.int .i64 (L_k58_0.v9 s)))))))) (.leaf (.unk))) (.leaf (.unk)))) (.leaf (.unk))) (.leaf (.unk))) (.leaf (.unk))) (.leaf (.unk))), [.box 65 (ddv (Acc.c (L_k58_0.o0 s)))]) := rfl
set_option maxHeartbeats 4000000 in
set_option maxRecDepth 100000 in
theorem an_k58_0_un {β : Type} (n : Int) (p_v7 : List (List DV)) (v8 : Int) (v9 : Int) (p_o0 : List CV) (f_ : an_k58_0.σ → Option β) : (an_k58_0.un (.unk :: .unk :: .unk :: .v (.one (.d (.sc (.int .i64 n)))) :: .unk :: .unk :: .unk :: .v (.one (.d (.sl p_v7))) :: .v (.one (.d (.sc (.int .i64 v8)))) :: .v (.one (.d (.sc (.int .i64 v9)))) :: U8 (.unk :: [])) [.box 65 p_o0]).bind f_ = (decL dTx p_v7).bind fun v7 => ((allD p_o0).bind dAcc).bind fun o0 => f_ (L_k58_0.mk n v7 v8 v9 o0) :=
  (mkAnn_un (σ := L_k58_0) _ _ _ _ _ _ _ _ _ f_).trans (by simp (maxSteps := 10000000) [Option.bind_assoc, U8, U64, K8, K64])
def T_k58 : List (Nat × LoopA) := [(0, .ty an_k58_0)]
set_option maxHeartbeats 20000000 in
set_option maxRecDepth 100000 in
noncomputable def pk_k58 : { F : Acc → Option (Int) // CallC Tryz.prog 103 (con1 (eT ceAcc) (fun x0 => (F x0).map (res1 rI).enc)) } :=
  ⟨_, cc1 E_k58 Tryz.func103 rfl rfl (T := T_k58) (G := []) (r := (res1 rI)) fun x0 => by
    unfold Wf
    simp (maxSteps := 10000000) (implicitDefEqProofs := false) [ty_k58, c_queue_Slots, T_k58, Tryz.f103, M_kd1, an_k58_0_st, an_k58_0_un, an_k58_0_c, iC, uC, bC, sC, Acc.c, Tx.c]
    try rfl⟩
noncomputable def F_k58 : Acc → Option (Int) := pk_k58.1
noncomputable def M_k58 : List DA → Option (List RV) := con1 (eT ceAcc) (fun x0 => (F_k58 x0).map (res1 rI).enc)
theorem cc_k58 : CallC Tryz.prog 103 M_k58 := pk_k58.2
theorem en_k55 : Enters Tryz.prog 116 := ⟨_, Tryz.func116, rfl, rfl⟩
def ty_k55 : List (Nat × TI) := [ti65, ti31, ti3, ti32]
noncomputable def C_k55 : Cfg := mkC ty_k55 [] [(61, M_k51), (102, M_kce), (101, M_k59), (108, M_k54), (141, M_kd1), (151, M_ka5)] [61, 102, 101, 108, 141, 151] [] [] [] [(13, [true, true, true, false, true, true, true])]
theorem E_k55 : Env1 Tryz.prog C_k55 := mkC_ok (by kernel_rfl) (⟨⟨en_k51, cc_k51⟩, ⟨⟨en_kce, cc_kce⟩, ⟨⟨en_k59, cc_k59⟩, ⟨⟨en_k54, cc_k54⟩, ⟨⟨en_kd1, cc_kd1⟩, ⟨⟨en_ka5, cc_ka5⟩, trivial⟩⟩⟩⟩⟩⟩) (by kernel_rfl)
theorem c_queue_Place : CIs (C_k55) ty_k55 [] [(61, M_k51), (102, M_kce), (101, M_k59), (108, M_k54), (141, M_kd1), (151, M_ka5)] [61, 102, 101, 108, 141, 151] [61, 102, 101, 108, 141, 151] [] [] [] [(13, [true, true, true, false, true, true, true])] [] [] := ⟨rfl, rfl, rfl, rfl, rfl, rfl, rfl, rfl, rfl, rfl, rfl⟩
set_option maxHeartbeats 20000000 in
set_option maxRecDepth 100000 in
noncomputable def pk_k55 : { F : Acc → Tx → Int → Int → Option (Int × Int) // CallC Tryz.prog 116 (con4 (eT ceAcc) (eT ceTx) eInt eInt (fun x0 x1 x2 x3 => (F x0 x1 x2 x3).map (res2 rI rI).enc)) } :=
  ⟨_, cc4 E_k55 Tryz.func116 rfl rfl (T := []) (G := []) (r := (res2 rI rI)) fun x0 x1 x2 x3 => by
    unfold Wf
    simp (maxSteps := 10000000) (implicitDefEqProofs := false) [ty_k55, c_queue_Place, Tryz.f116, M_k51, M_kce, M_k59, M_k54, M_kd1, M_ka5, iC, uC, bC, sC, Acc.c, Tx.c]
    try rfl⟩
noncomputable def F_k55 : Acc → Tx → Int → Int → Option (Int × Int) := pk_k55.1
noncomputable def M_k55 : List DA → Option (List RV) := con4 (eT ceAcc) (eT ceTx) eInt eInt (fun x0 x1 x2 x3 => (F_k55 x0 x1 x2 x3).map (res2 rI rI).enc)
theorem cc_k55 : CallC Tryz.prog 116 M_k55 := pk_k55.2
theorem en_k56 : Enters Tryz.prog 117 := ⟨_, Tryz.func117, rfl, rfl⟩
def ty_k56 : List (Nat × TI) := [ti65, ti31, ti32, ti3]
noncomputable def C0_k56 : Cfg := mkC ty_k56 [] [(143, M_k5a), (145, M_kb3)] [143] [] [] [] []
noncomputable def C_k56 : Cfg := mkI C0_k56 [(152, I_kbb)]
theorem E0_k56 : Env1 Tryz.prog C0_k56 := mkC_ok (by kernel_rfl) (⟨⟨en_k5a, cc_k5a⟩, ⟨⟨en_kb3, cc_kb3⟩, trivial⟩⟩) (by kernel_rfl)
theorem E_k56 : Env1 Tryz.prog C_k56 := mkI_ok E0_k56 (⟨⟨en_kbb, ic_kbb⟩, trivial⟩)
theorem c_queue_Put : CIs (C_k56) ty_k56 [] [(143, M_k5a), (145, M_kb3)] [143, 145] [143] [] [] [] [] [] [152] := ⟨rfl, rfl, rfl, rfl, rfl, rfl, rfl, rfl, rfl, rfl, rfl⟩
theorem ci_queue_Put : CIl C_k56 [(152, I_kbb)] := rfl
set_option maxHeartbeats 20000000 in
set_option maxRecDepth 100000 in
noncomputable def pk_k56 : { F : Acc → Tx → Option (Acc) // CallC Tryz.prog 117 (con2 (eT ceAcc) (eT ceTx) (fun x0 x1 => (F x0 x1).map (res1 (rAgg ceAcc)).enc)) } :=
  ⟨_, cc2 E_k56 Tryz.func117 rfl rfl (T := []) (G := []) (r := (res1 (rAgg ceAcc))) fun x0 x1 => by
    unfold Wf
    simp (maxSteps := 10000000) (implicitDefEqProofs := false) [ty_k56, c_queue_Put, ci_queue_Put, Tryz.f117, M_k5a, M_kb3, iC, uC, bC, sC, Acc.c, Tx.c, I_kbb, mkI]
    try rfl⟩
noncomputable def F_k56 : Acc → Tx → Option (Acc) := pk_k56.1
noncomputable def M_k56 : List DA → Option (List RV) := con2 (eT ceAcc) (eT ceTx) (fun x0 x1 => (F_k56 x0 x1).map (res1 (rAgg ceAcc)).enc)
theorem cc_k56 : CallC Tryz.prog 117 M_k56 := pk_k56.2

end Go.Vm

/- What Go functions come to, as Lean functions: each with its contract. -/
set_option linter.unusedVariables false
set_option linter.unusedSimpArgs false
namespace Go.Vm
open Go Go.RowKit Go.Proofs
attribute [-simp] env0 envI evOps evOne evOp evIndexAddr evIndex evPick binV evLoad evStore loadC callV nilC storeC toDVs toDAs resRs
attribute [local simp] List.lookup List.replicate List.range_succ env0_tree envI_tree

theorem en_k46 : Enters Tryz.prog 109 := ⟨_, Tryz.func109, rfl, rfl⟩
def ty_k46 : List (Nat × TI) := [ti65, ti168, ti82, ti4, ti3]
noncomputable def C_k46 : Cfg := mkP (mkC ty_k46 [] [(103, M_k58)] [103] [] [4] [] [(1, [true, true, true, true, true, true, false, true, true, true, false]), (2, [true, true, true, true, true, true, true, false, true, true, true, true, false])]) [(1, [3])]
theorem E_k46 : Env1 Tryz.prog C_k46 := mkP_ok (mkC_ok (by kernel_rfl) (⟨⟨en_k58, cc_k58⟩, trivial⟩) (by kernel_rfl))
theorem c_look_to : CIs (C_k46) ty_k46 [] [(103, M_k58)] [103] [103] [] [4] [] [(1, [true, true, true, true, true, true, false, true, true, true, false]), (2, [true, true, true, true, true, true, true, false, true, true, true, true, false])] [(1, [3])] [] := ⟨rfl, rfl, rfl, rfl, rfl, rfl, rfl, rfl, rfl, rfl, rfl⟩
noncomputable def I_k46 : List V1 → Objs → Option (TV × Objs) := Wi C_k46 [] [] Tryz.f109
theorem ic_k46 : InlC Tryz.prog 109 I_k46 := inlC_of_W E_k46 Tryz.func109 rfl rfl
theorem en_k41 : Enters Tryz.prog 112 := ⟨_, Tryz.func112, rfl, rfl⟩
def ty_k41 : List (Nat × TI) := [ti34, ti82, ti168]
noncomputable def C_k41 : Cfg := mkC ty_k41 [] [] [] [] [4] [] []
theorem E_k41 : Env1 Tryz.prog C_k41 := mkC_ok (by kernel_rfl) trivial (by kernel_rfl)
theorem c_look_answer : CIs (C_k41) ty_k41 [] [] [] [] [] [4] [] [] [] [] := ⟨rfl, rfl, rfl, rfl, rfl, rfl, rfl, rfl, rfl, rfl, rfl⟩
noncomputable def I_k41 : List V1 → Objs → Option (TV × Objs) := Wi C_k41 [] [] Tryz.f112
theorem ic_k41 : InlC Tryz.prog 112 I_k41 := inlC_of_W E_k41 Tryz.func112 rfl rfl
theorem en_k44 : Enters Tryz.prog 111 := ⟨_, Tryz.func111, rfl, rfl⟩
def ty_k44 : List (Nat × TI) := [ti32, ti3, ti31, ti168, ti82, ti35, ti68]
noncomputable def C_k44 : Cfg := mkC ty_k44 [] [] [] [] [0,1,6,9,10,11] [] [(4, [true, true, true, true, true, true, true, true, true, true, false, true, true, true, false])]
theorem E_k44 : Env1 Tryz.prog C_k44 := mkC_ok (by kernel_rfl) trivial (by kernel_rfl)
theorem c_look_tell : CIs (C_k44) ty_k44 [] [] [] [] [] [0,1,6,9,10,11] [] [(4, [true, true, true, true, true, true, true, true, true, true, false, true, true, true, false])] [] [] := ⟨rfl, rfl, rfl, rfl, rfl, rfl, rfl, rfl, rfl, rfl, rfl⟩
def T_k44 : List (Nat × LoopA) := [(0, .un)]
noncomputable def I_k44 : List V1 → Objs → Option (TV × Objs) := Wi C_k44 T_k44 [] Tryz.f111
theorem ic_k44 : InlC Tryz.prog 111 I_k44 := inlC_of_W E_k44 Tryz.func111 rfl rfl
theorem en_k42 : Enters Tryz.prog 77 := ⟨_, Tryz.func77, rfl, rfl⟩
def ty_k42 : List (Nat × TI) := [ti65, ti82, ti3, ti31, ti29, ti34]
noncomputable def C_k42 : Cfg := mkC ty_k42 [] [(108, M_k54), (78, M_k43)] [108] [] [] [] []
theorem E_k42 : Env1 Tryz.prog C_k42 := mkC_ok (by kernel_rfl) (⟨⟨en_k54, cc_k54⟩, ⟨⟨en_k43, cc_k43⟩, trivial⟩⟩) (by kernel_rfl)
theorem c_look_get : CIs (C_k42) ty_k42 [] [(108, M_k54), (78, M_k43)] [108, 78] [108] [] [] [] [] [] [] := ⟨rfl, rfl, rfl, rfl, rfl, rfl, rfl, rfl, rfl, rfl, rfl⟩
set_option maxHeartbeats 20000000 in
set_option maxRecDepth 100000 in
noncomputable def pk_k42 : { F : Acc → Int → Option (Plan) // CallC Tryz.prog 77 (con2 (eT ceAcc) eInt (fun x0 x1 => (F x0 x1).map (res1 (rAgg cePlan)).enc)) } :=
  ⟨_, cc2 E_k42 Tryz.func77 rfl rfl (T := []) (G := []) (r := (res1 (rAgg cePlan))) fun x0 x1 => by
    unfold Wf
    simp (maxSteps := 10000000) (implicitDefEqProofs := false) [ty_k42, c_look_get, Tryz.f77, M_k54, M_k43, iC, uC, bC, sC, Acc.c, Event.c, Plan.c, Result.c, Tx.c]
    try rfl⟩
noncomputable def F_k42 : Acc → Int → Option (Plan) := pk_k42.1
noncomputable def M_k42 : List DA → Option (List RV) := con2 (eT ceAcc) eInt (fun x0 x1 => (F_k42 x0 x1).map (res1 (rAgg cePlan)).enc)
theorem cc_k42 : CallC Tryz.prog 77 M_k42 := pk_k42.2
theorem en_k3e : Enters Tryz.prog 40 := ⟨_, Tryz.func40, rfl, rfl⟩
def ty_k3e : List (Nat × TI) := [ti38, ti3, ti9, ti31]
noncomputable def C_k3e : Cfg := mkC ty_k3e [] [(74, M_kcf)] [74] [] [] [] []
theorem E_k3e : Env1 Tryz.prog C_k3e := mkC_ok (by kernel_rfl) (⟨⟨en_kcf, cc_kcf⟩, trivial⟩) (by kernel_rfl)
theorem c_look_Whose : CIs (C_k3e) ty_k3e [] [(74, M_kcf)] [74] [74] [] [] [] [] [] [] := ⟨rfl, rfl, rfl, rfl, rfl, rfl, rfl, rfl, rfl, rfl, rfl⟩
set_option maxHeartbeats 20000000 in
set_option maxRecDepth 100000 in
noncomputable def pk_k3e : { F : Op → Option (Int × Bool) // CallC Tryz.prog 40 (con1 (eT ceOp) (fun x0 => (F x0).map (res2 rI rB).enc)) } :=
  ⟨_, cc1 E_k3e Tryz.func40 rfl rfl (T := []) (G := []) (r := (res2 rI rB)) fun x0 => by
    unfold Wf
    simp (maxSteps := 10000000) (implicitDefEqProofs := false) [ty_k3e, c_look_Whose, Tryz.f40, M_kcf, iC, uC, bC, sC, Op.c, Tx.c]
    try rfl⟩
noncomputable def F_k3e : Op → Option (Int × Bool) := pk_k3e.1
noncomputable def M_k3e : List DA → Option (List RV) := con1 (eT ceOp) (fun x0 => (F_k3e x0).map (res2 rI rB).enc)
theorem cc_k3e : CallC Tryz.prog 40 M_k3e := pk_k3e.2
theorem en_k3b : Enters Tryz.prog 73 := ⟨_, Tryz.func73, rfl, rfl⟩
def ty_k3b : List (Nat × TI) := [ti65, ti82, ti3, ti31, ti29, ti168, ti166, ti32, ti34]
noncomputable def C0_k3b : Cfg := mkP (mkC ty_k3b [] [(108, M_k54), (78, M_k43), (110, M_k52)] [108] [(18, [(5, 68, 8)])] [] [] [(5, [true, true, true, false, false, true, true, false, true, true, false, false])]) [(5, [5])]
noncomputable def C_k3b : Cfg := mkI C0_k3b [(109, I_k46), (111, I_k44), (112, I_k41)]
theorem E0_k3b : Env1 Tryz.prog C0_k3b := mkP_ok (mkC_ok (by kernel_rfl) (⟨⟨en_k54, cc_k54⟩, ⟨⟨en_k43, cc_k43⟩, ⟨⟨en_k52, cc_k52⟩, trivial⟩⟩⟩) (by kernel_rfl))
theorem E_k3b : Env1 Tryz.prog C_k3b := mkI_ok E0_k3b (⟨⟨en_k46, ic_k46⟩, ⟨⟨en_k44, ic_k44⟩, ⟨⟨en_k41, ic_k41⟩, trivial⟩⟩⟩)
theorem c_look_Drop : CIs (C_k3b) ty_k3b [] [(108, M_k54), (78, M_k43), (110, M_k52)] [108, 78, 110] [108] [(18, [(5, 68, 8)])] [] [] [(5, [true, true, true, false, false, true, true, false, true, true, false, false])] [(5, [5])] [109, 111, 112] := ⟨rfl, rfl, rfl, rfl, rfl, rfl, rfl, rfl, rfl, rfl, rfl⟩
theorem ci_look_Drop : CIl C_k3b [(109, I_k46), (111, I_k44), (112, I_k41)] := rfl
set_option maxHeartbeats 20000000 in
set_option maxRecDepth 100000 in
noncomputable def pk_k3b : { F : Acc → Int → Option (Plan) // CallC Tryz.prog 73 (con2 (eT ceAcc) eInt (fun x0 x1 => (F x0 x1).map (res1 (rAgg cePlan)).enc)) } :=
  ⟨_, cc2 E_k3b Tryz.func73 rfl rfl (T := []) (G := []) (r := (res1 (rAgg cePlan))) fun x0 x1 => by
    unfold Wf
    simp (maxSteps := 10000000) (implicitDefEqProofs := false) [ty_k3b, c_look_Drop, ci_look_Drop, Tryz.f73, M_k54, M_k43, M_k52, iC, uC, bC, sC, Acc.c, Event.c, Plan.c, Planner.c, Result.c, Tx.c, wrap64, ty_k46, c_look_to, Tryz.f109, M_k58, I_k46, Wi, ty_k44, c_look_tell, T_k44, Tryz.f111, I_k44, ty_k41, c_look_answer, Tryz.f112, I_k41, mkI]
    try rfl⟩
noncomputable def F_k3b : Acc → Int → Option (Plan) := pk_k3b.1
noncomputable def M_k3b : List DA → Option (List RV) := con2 (eT ceAcc) eInt (fun x0 x1 => (F_k3b x0 x1).map (res1 (rAgg cePlan)).enc)
theorem cc_k3b : CallC Tryz.prog 73 M_k3b := pk_k3b.2
theorem en_k3f : Enters Tryz.prog 75 := ⟨_, Tryz.func75, rfl, rfl⟩
def ty_k3f : List (Nat × TI) := [ti23, ti65, ti82, ti9, ti31, ti29, ti3, ti168, ti166, ti32, ti34]
noncomputable def C0_k3f : Cfg := mkP (mkC ty_k3f [] [(74, M_kcf), (78, M_k43), (116, M_k55), (108, M_k54), (117, M_k56)] [74, 116, 108] [(46, [(5, 68, 8)])] [] [] [(12, [true, true, true, false, false, true, true, true, false, true, false, false])]) [(12, [7])]
noncomputable def C_k3f : Cfg := mkI C0_k3f [(109, I_k46), (111, I_k44), (112, I_k41)]
theorem E0_k3f : Env1 Tryz.prog C0_k3f := mkP_ok (mkC_ok (by kernel_rfl) (⟨⟨en_kcf, cc_kcf⟩, ⟨⟨en_k43, cc_k43⟩, ⟨⟨en_k55, cc_k55⟩, ⟨⟨en_k54, cc_k54⟩, ⟨⟨en_k56, cc_k56⟩, trivial⟩⟩⟩⟩⟩) (by kernel_rfl))
theorem E_k3f : Env1 Tryz.prog C_k3f := mkI_ok E0_k3f (⟨⟨en_k46, ic_k46⟩, ⟨⟨en_k44, ic_k44⟩, ⟨⟨en_k41, ic_k41⟩, trivial⟩⟩⟩)
theorem c_look_add : CIs (C_k3f) ty_k3f [] [(74, M_kcf), (78, M_k43), (116, M_k55), (108, M_k54), (117, M_k56)] [74, 78, 116, 108, 117] [74, 116, 108] [(46, [(5, 68, 8)])] [] [] [(12, [true, true, true, false, false, true, true, true, false, true, false, false])] [(12, [7])] [109, 111, 112] := ⟨rfl, rfl, rfl, rfl, rfl, rfl, rfl, rfl, rfl, rfl, rfl⟩
theorem ci_look_add : CIl C_k3f [(109, I_k46), (111, I_k44), (112, I_k41)] := rfl
set_option maxHeartbeats 20000000 in
set_option maxRecDepth 100000 in
noncomputable def pk_k3f : { F : Config → Acc → ByteArray → Option (Plan) // CallC Tryz.prog 75 (con3 (eT ceConfig) (eT ceAcc) eStr (fun x0 x1 x2 => (F x0 x1 x2).map (res1 (rAgg cePlan)).enc)) } :=
  ⟨_, cc3 E_k3f Tryz.func75 rfl rfl (T := []) (G := []) (r := (res1 (rAgg cePlan))) fun x0 x1 x2 => by
    unfold Wf
    simp (maxSteps := 10000000) (implicitDefEqProofs := false) [ty_k3f, c_look_add, ci_look_add, Tryz.f75, M_kcf, M_k43, M_k55, M_k54, M_k56, iC, uC, bC, sC, Acc.c, Config.c, Event.c, Plan.c, Planner.c, Result.c, Tx.c, wrap64, ty_k46, c_look_to, Tryz.f109, M_k58, I_k46, Wi, ty_k44, c_look_tell, T_k44, Tryz.f111, I_k44, ty_k41, c_look_answer, Tryz.f112, I_k41, mkI]
    try rfl⟩
noncomputable def F_k3f : Config → Acc → ByteArray → Option (Plan) := pk_k3f.1
noncomputable def M_k3f : List DA → Option (List RV) := con3 (eT ceConfig) (eT ceAcc) eStr (fun x0 x1 x2 => (F_k3f x0 x1 x2).map (res1 (rAgg cePlan)).enc)
theorem cc_k3f : CallC Tryz.prog 75 M_k3f := pk_k3f.2

end Go.Vm

/- What Go functions come to, as Lean functions: each with its contract. -/
set_option linter.unusedVariables false
set_option linter.unusedSimpArgs false
namespace Go.Vm
open Go Go.RowKit Go.Proofs
attribute [-simp] env0 envI evOps evOne evOp evIndexAddr evIndex evPick binV evLoad evStore loadC callV nilC storeC toDVs toDAs resRs
attribute [local simp] List.lookup List.replicate List.range_succ env0_tree envI_tree

theorem en_k45 : Enters Tryz.prog 111 := ⟨_, Tryz.func111, rfl, rfl⟩
def ty_k45 : List (Nat × TI) := [ti32, ti3, ti31, ti168, ti82, ti35, ti68]
noncomputable def C_k45 : Cfg := mkC ty_k45 [] [] [] [] [0,1,9,10,11] [] [(4, [true, true, true, true, true, true, true, true, true, true, false, true, true, true, false])]
theorem E_k45 : Env1 Tryz.prog C_k45 := mkC_ok (by kernel_rfl) trivial (by kernel_rfl)
theorem c_look_tell2 : CIs (C_k45) ty_k45 [] [] [] [] [] [0,1,9,10,11] [] [(4, [true, true, true, true, true, true, true, true, true, true, false, true, true, true, false])] [] [] := ⟨rfl, rfl, rfl, rfl, rfl, rfl, rfl, rfl, rfl, rfl, rfl⟩
structure L_k45_0 where
  kind : Int
  v9 : List Tx
  v10 : Int
  v11 : Int
  o0 : Acc
  changes : Bool
  delta : Int
  after_sender : Int
  after_base : Int
  result_err : Int
  result_tx_sender : Int
  result_tx_nonce : Int
  result_tx_tip : Int
  result_tx_cap : Int
  result_tx_gas : Int
  result_tx_data : ByteArray
  result_slots : Int
  o2 : Acc
  o3 : List Event
  plan_changes : Bool
  plan_delta : Int
  plan_after_sender : Int
  plan_after_base : Int
  plan_after_txs : List Tx
  plan_result_err : Int
  plan_result_tx_sender : Int
  plan_result_tx_nonce : Int
  plan_result_tx_tip : Int
  plan_result_tx_cap : Int
  plan_result_tx_gas : Int
  plan_result_tx_data : ByteArray
  plan_result_slots : Int
  a_sender : Int
  a_base : Int
  a_txs : List Tx
def an_k45_0 : Ann := mkAnn (σ := L_k45_0) (lSkip (vOne (cPtr 4 0 0)) <| lCons (vOne cI) <| lSkip vUnk <| lSkip vUnk <| lSkip vUnk <| lSkip vUnk <| lSkip vUnk <| lSkip vUnk <| lSkip vUnk <| lCons (vOne (cSl ceTx)) <| lCons (vOne cI) <| lCons (vOne cI) <| K8 <| K8 <| lSkip vUnk <| lSkip vUnk <| lSkip vUnk <|  lNil) (lCons (oBox 65 (cStr ceAcc)) <| lCons (oBox 82 (lCons cB <| lCons cI <| lCons cI <| lCons cI <| lSkip cNil <| lSkip cNil <| lCons cI <| lCons cI <| lCons cI <| lCons cI <| lCons cI <| lCons cI <| lCons cS <| lSkip cNil <| lCons cI <|  lNil)) <| lCons (oBox 65 (cStr ceAcc)) <| lCons (oArr 68 8 ceEvent) <| lCons (oBox 168 (lCons cB <| lCons cI <| lCons cI <| lCons cI <| lCons (cSl ceTx) <| lCons (cOwn 3) <| lCons cI <| lCons cI <| lCons cI <| lCons cI <| lCons cI <| lCons cI <| lCons cS <| lSkip cNil <| lCons cI <| lCons cI <| lCons cI <| lCons (cSl ceTx) <|  lNil)) <| lSkip oNil <|  lNil)
  (fun a b => L_k45_0.mk (a.1) (a.2.1) (a.2.2.1) (a.2.2.2.1) (b.1) (b.2.1.1) (b.2.1.2.1) (b.2.1.2.2.1) (b.2.1.2.2.2.1) (b.2.1.2.2.2.2.1) (b.2.1.2.2.2.2.2.1) (b.2.1.2.2.2.2.2.2.1) (b.2.1.2.2.2.2.2.2.2.1) (b.2.1.2.2.2.2.2.2.2.2.1) (b.2.1.2.2.2.2.2.2.2.2.2.1) (b.2.1.2.2.2.2.2.2.2.2.2.2.1) (b.2.1.2.2.2.2.2.2.2.2.2.2.2.1) (b.2.2.1) (b.2.2.2.1) (b.2.2.2.2.1.1) (b.2.2.2.2.1.2.1) (b.2.2.2.2.1.2.2.1) (b.2.2.2.2.1.2.2.2.1) (b.2.2.2.2.1.2.2.2.2.1) (b.2.2.2.2.1.2.2.2.2.2.2.1) (b.2.2.2.2.1.2.2.2.2.2.2.2.1) (b.2.2.2.2.1.2.2.2.2.2.2.2.2.1) (b.2.2.2.2.1.2.2.2.2.2.2.2.2.2.1) (b.2.2.2.2.1.2.2.2.2.2.2.2.2.2.2.1) (b.2.2.2.2.1.2.2.2.2.2.2.2.2.2.2.2.1) (b.2.2.2.2.1.2.2.2.2.2.2.2.2.2.2.2.2.1) (b.2.2.2.2.1.2.2.2.2.2.2.2.2.2.2.2.2.2.1) (b.2.2.2.2.1.2.2.2.2.2.2.2.2.2.2.2.2.2.2.1) (b.2.2.2.2.1.2.2.2.2.2.2.2.2.2.2.2.2.2.2.2.1) (b.2.2.2.2.1.2.2.2.2.2.2.2.2.2.2.2.2.2.2.2.2.1)) (fun s => (s.kind, s.v9, s.v10, s.v11, ())) (fun s => (s.o0, (s.changes, s.delta, s.after_sender, s.after_base, s.result_err, s.result_tx_sender, s.result_tx_nonce, s.result_tx_tip, s.result_tx_cap, s.result_tx_gas, s.result_tx_data, s.result_slots, ()), s.o2, s.o3, (s.plan_changes, s.plan_delta, s.plan_after_sender, s.plan_after_base, s.plan_after_txs, s.o3.length, s.plan_result_err, s.plan_result_tx_sender, s.plan_result_tx_nonce, s.plan_result_tx_tip, s.plan_result_tx_cap, s.plan_result_tx_gas, s.plan_result_tx_data, s.plan_result_slots, s.a_sender, s.a_base, s.a_txs, ()), ())) (fun a b => decide (b.2.2.2.2.1.2.2.2.2.2.1 = (b.2.2.2.1).length)) (by rintro ⟨a0, a1, a2, a3, _⟩ ⟨b0, ⟨c1_0, c1_1, c1_2, c1_3, c1_4, c1_5, c1_6, c1_7, c1_8, c1_9, c1_10, c1_11, _⟩, b2, b3, ⟨c4_0, c4_1, c4_2, c4_3, c4_4, c4_5, c4_6, c4_7, c4_8, c4_9, c4_10, c4_11, c4_12, c4_13, c4_14, c4_15, c4_16, _⟩, _⟩ h; simp at h; simp [h])
theorem an_k45_0_c (C : Cfg) : an_k45_0.c C = C := rfl
set_option maxRecDepth 100000 in
theorem an_k45_0_st (s : an_k45_0.σ) : an_k45_0.st s = (toL 31 (.node (.node (.node (.node (.node (.node (.node (.node (.leaf (.v (.one (.ptr 4 0 0)))) (.leaf (.v (.one (.d (.sc (.int .i64 (L_k45_0.kind s)))))))) (.leaf (.unk))) (.leaf (.unk))) (.node (.node (.node (.leaf (.unk)) (.leaf (.v (.one (.d (.sl ((L_k45_0.v9 s).map Tx.c))))))) (.node (.leaf (.v (.one (.d (.sc (.int .i64 (L_k45_0.v10 s))))))) (.leaf (.v (.one (.d (.sc (.int .i64 (L_k45_0.v11 s))))))))) (.leaf (.unk)))) (.leaf (.unk))) (.leaf (.unk))) (.leaf (.unk))) (.leaf (.unk))), [.box 65 (ddv (Acc.c (L_k45_0.o0 s))), .box 82 [.d (.sc (.bool (L_k45_0.changes s))), .d (.sc (.int .i64 (L_k45_0.delta s))), .d (.sc (.int .i64 (L_k45_0.after_sender s))), .d (.sc (.int .i64 (L_k45_0.after_base s))), .nil, .nil, .d (.sc (.int .i64 (L_k45_0.result_err s))), .d (.sc (.int .i64 (L_k45_0.result_tx_sender s))), .d (.sc (.int .i64 (L_k45_0.result_tx_nonce s))), .d (.sc (.int .i64 (L_k45_0.result_tx_tip s))), .d (.sc (.int .i64 (L_k45_0.result_tx_cap s))), .d (.sc (.int .i64 (L_k45_0.result_tx_gas s))), .d (.sc (.string (L_k45_0.result_tx_data s))), .nil, .d (.sc (.int .i64 (L_k45_0.result_slots s)))], .box 65 (ddv (Acc.c (L_k45_0.o2 s))), .arr 68 8 ((L_k45_0.o3 s).map Event.c), .box 168 [.d (.sc (.bool (L_k45_0.plan_changes s))), .d (.sc (.int .i64 (L_k45_0.plan_delta s))), .d (.sc (.int .i64 (L_k45_0.plan_after_sender s))), .d (.sc (.int .i64 (L_k45_0.plan_after_base s))), .d (.sl ((L_k45_0.plan_after_txs s).map Tx.c)), .own 3 (L_k45_0.o3 s).length, .d (.sc (.int .i64 (L_k45_0.plan_result_err s))), .d (.sc (.int .i64 (L_k45_0.plan_result_tx_sender s))), .d (.sc (.int .i64 (L_k45_0.plan_result_tx_nonce s))), .d (.sc (.int .i64 (L_k45_0.plan_result_tx_tip s))), .d (.sc (.int .i64 (L_k45_0.plan_result_tx_cap s))), .d (.sc (.int .i64 (L_k45_0.plan_result_tx_gas s))), .d (.sc (.string (L_k45_0.plan_result_tx_data s))), .nil, .d (.sc (.int .i64 (L_k45_0.plan_result_slots s))), .d (.sc (.int .i64 (L_k45_0.a_sender s))), .d (.sc (.int .i64 (L_k45_0.a_base s))), .d (.sl ((L_k45_0.a_txs s).map Tx.c))], .nil]) := rfl
set_option maxHeartbeats 4000000 in
set_option maxRecDepth 100000 in
theorem an_k45_0_un {β : Type} (kind : Int) (p_v9 : List (List DV)) (v10 : Int) (v11 : Int) (p_o0 : List CV) (changes : Bool) (delta : Int) (after_sender : Int) (after_base : Int) (result_err : Int) (result_tx_sender : Int) (result_tx_nonce : Int) (result_tx_tip : Int) (result_tx_cap : Int) (result_tx_gas : Int) (result_tx_data : ByteArray) (result_slots : Int) (p_o2 : List CV) (p_o3 : List (List DV)) (plan_changes : Bool) (plan_delta : Int) (plan_after_sender : Int) (plan_after_base : Int) (p_plan_after_txs : List (List DV)) (m1_o3 : Nat) (plan_result_err : Int) (plan_result_tx_sender : Int) (plan_result_tx_nonce : Int) (plan_result_tx_tip : Int) (plan_result_tx_cap : Int) (plan_result_tx_gas : Int) (plan_result_tx_data : ByteArray) (plan_result_slots : Int) (a_sender : Int) (a_base : Int) (p_a_txs : List (List DV)) (f_ : an_k45_0.σ → Option β) : (an_k45_0.un (.v (.one (.ptr 4 0 0)) :: .v (.one (.d (.sc (.int .i64 kind)))) :: .unk :: .unk :: .unk :: .unk :: .unk :: .unk :: .unk :: .v (.one (.d (.sl p_v9))) :: .v (.one (.d (.sc (.int .i64 v10)))) :: .v (.one (.d (.sc (.int .i64 v11)))) :: U8 (U8 (.unk :: .unk :: .unk :: []))) [.box 65 p_o0, .box 82 [.d (.sc (.bool changes)), .d (.sc (.int .i64 delta)), .d (.sc (.int .i64 after_sender)), .d (.sc (.int .i64 after_base)), .nil, .nil, .d (.sc (.int .i64 result_err)), .d (.sc (.int .i64 result_tx_sender)), .d (.sc (.int .i64 result_tx_nonce)), .d (.sc (.int .i64 result_tx_tip)), .d (.sc (.int .i64 result_tx_cap)), .d (.sc (.int .i64 result_tx_gas)), .d (.sc (.string result_tx_data)), .nil, .d (.sc (.int .i64 result_slots))], .box 65 p_o2, .arr 68 8 p_o3, .box 168 [.d (.sc (.bool plan_changes)), .d (.sc (.int .i64 plan_delta)), .d (.sc (.int .i64 plan_after_sender)), .d (.sc (.int .i64 plan_after_base)), .d (.sl p_plan_after_txs), .own 3 m1_o3, .d (.sc (.int .i64 plan_result_err)), .d (.sc (.int .i64 plan_result_tx_sender)), .d (.sc (.int .i64 plan_result_tx_nonce)), .d (.sc (.int .i64 plan_result_tx_tip)), .d (.sc (.int .i64 plan_result_tx_cap)), .d (.sc (.int .i64 plan_result_tx_gas)), .d (.sc (.string plan_result_tx_data)), .nil, .d (.sc (.int .i64 plan_result_slots)), .d (.sc (.int .i64 a_sender)), .d (.sc (.int .i64 a_base)), .d (.sl p_a_txs)], .nil]).bind f_ = (decL dTx p_v9).bind fun v9 => ((allD p_o0).bind dAcc).bind fun o0 => ((allD p_o2).bind dAcc).bind fun o2 => (decL dEvent p_o3).bind fun o3 => (decL dTx p_plan_after_txs).bind fun plan_after_txs => (decL dTx p_a_txs).bind fun a_txs => (if m1_o3 = o3.length then f_ (L_k45_0.mk kind v9 v10 v11 o0 changes delta after_sender after_base result_err result_tx_sender result_tx_nonce result_tx_tip result_tx_cap result_tx_gas result_tx_data result_slots o2 o3 plan_changes plan_delta plan_after_sender plan_after_base plan_after_txs plan_result_err plan_result_tx_sender plan_result_tx_nonce plan_result_tx_tip plan_result_tx_cap plan_result_tx_gas plan_result_tx_data plan_result_slots a_sender a_base a_txs) else none) :=
  (mkAnn_un (σ := L_k45_0) _ _ _ _ _ _ _ _ _ f_).trans (by simp (maxSteps := 10000000) [Option.bind_assoc, U8, U64, K8, K64, bind_ite])
def T_k45 : List (Nat × LoopA) := [(0, .tr an_k45_0)]
noncomputable def I_k45 : List V1 → Objs → Option (TV × Objs) := Wi C_k45 T_k45 [] Tryz.f111
theorem ic_k45 : InlC Tryz.prog 111 I_k45 := inlC_of_W E_k45 Tryz.func111 rfl rfl
theorem en_k40 : Enters Tryz.prog 76 := ⟨_, Tryz.func76, rfl, rfl⟩
def ty_k40 : List (Nat × TI) := [ti65, ti82, ti3, ti29, ti168, ti166, ti32, ti4, ti34, ti31]
noncomputable def C0_k40 : Cfg := mkC ty_k40 [] [(78, M_k43), (118, M_k50)] [] [(30, [(5, 68, 8)])] [] [] []
noncomputable def C_k40 : Cfg := mkI C0_k40 [(109, I_k46), (111, I_k45), (112, I_k41)]
theorem E0_k40 : Env1 Tryz.prog C0_k40 := mkC_ok (by kernel_rfl) (⟨⟨en_k43, cc_k43⟩, ⟨⟨en_k50, cc_k50⟩, trivial⟩⟩) (by kernel_rfl)
theorem E_k40 : Env1 Tryz.prog C_k40 := mkI_ok E0_k40 (⟨⟨en_k46, ic_k46⟩, ⟨⟨en_k45, ic_k45⟩, ⟨⟨en_k41, ic_k41⟩, trivial⟩⟩⟩)
theorem c_look_advance : CIs (C_k40) ty_k40 [] [(78, M_k43), (118, M_k50)] [78, 118] [] [(30, [(5, 68, 8)])] [] [] [] [] [109, 111, 112] := ⟨rfl, rfl, rfl, rfl, rfl, rfl, rfl, rfl, rfl, rfl, rfl⟩
theorem ci_look_advance : CIl C_k40 [(109, I_k46), (111, I_k45), (112, I_k41)] := rfl
set_option maxHeartbeats 20000000 in
set_option maxRecDepth 100000 in
noncomputable def pk_k40 : { F : Acc → Int → Option (Plan) // CallC Tryz.prog 76 (con2 (eT ceAcc) eInt (fun x0 x1 => (F x0 x1).map (res1 (rAgg cePlan)).enc)) } :=
  ⟨_, cc2 E_k40 Tryz.func76 rfl rfl (T := []) (G := []) (r := (res1 (rAgg cePlan))) fun x0 x1 => by
    unfold Wf
    simp (maxSteps := 10000000) (implicitDefEqProofs := false) [ty_k40, c_look_advance, ci_look_advance, Tryz.f76, M_k43, M_k50, iC, uC, bC, sC, Acc.c, Event.c, Plan.c, Planner.c, Result.c, Tx.c, ty_k46, c_look_to, Tryz.f109, M_k58, I_k46, Wi, ty_k45, c_look_tell2, T_k45, Tryz.f111, an_k45_0_st, an_k45_0_un, an_k45_0_c, I_k45, ty_k41, c_look_answer, Tryz.f112, I_k41, mkI]
    try rfl⟩
noncomputable def F_k40 : Acc → Int → Option (Plan) := pk_k40.1
noncomputable def M_k40 : List DA → Option (List RV) := con2 (eT ceAcc) eInt (fun x0 x1 => (F_k40 x0 x1).map (res1 (rAgg cePlan)).enc)
theorem cc_k40 : CallC Tryz.prog 76 M_k40 := pk_k40.2
theorem en_k3d : Enters Tryz.prog 41 := ⟨_, Tryz.func41, rfl, rfl⟩
def ty_k3d : List (Nat × TI) := [ti23, ti65, ti38, ti82, ti3, ti9, ti29]
noncomputable def C_k3d : Cfg := mkC ty_k3d [] [(75, M_k3f), (73, M_k3b), (76, M_k40), (77, M_k42), (78, M_k43)] [] [] [] [] []
theorem E_k3d : Env1 Tryz.prog C_k3d := mkC_ok (by kernel_rfl) (⟨⟨en_k3f, cc_k3f⟩, ⟨⟨en_k3b, cc_k3b⟩, ⟨⟨en_k40, cc_k40⟩, ⟨⟨en_k42, cc_k42⟩, ⟨⟨en_k43, cc_k43⟩, trivial⟩⟩⟩⟩⟩) (by kernel_rfl)
theorem c_look_Look : CIs (C_k3d) ty_k3d [] [(75, M_k3f), (73, M_k3b), (76, M_k40), (77, M_k42), (78, M_k43)] [75, 73, 76, 77, 78] [] [] [] [] [] [] [] := ⟨rfl, rfl, rfl, rfl, rfl, rfl, rfl, rfl, rfl, rfl, rfl⟩
set_option maxHeartbeats 20000000 in
set_option maxRecDepth 100000 in
noncomputable def pk_k3d : { F : Config → Acc → Op → Option (Plan) // CallC Tryz.prog 41 (con3 (eT ceConfig) (eT ceAcc) (eT ceOp) (fun x0 x1 x2 => (F x0 x1 x2).map (res1 (rAgg cePlan)).enc)) } :=
  ⟨_, cc3 E_k3d Tryz.func41 rfl rfl (T := []) (G := []) (r := (res1 (rAgg cePlan))) fun x0 x1 x2 => by
    unfold Wf
    simp (maxSteps := 10000000) (implicitDefEqProofs := false) [ty_k3d, c_look_Look, Tryz.f41, M_k3f, M_k3b, M_k40, M_k42, M_k43, iC, uC, bC, sC, Acc.c, Config.c, Event.c, Op.c, Plan.c, Result.c, Tx.c]
    try rfl⟩
noncomputable def F_k3d : Config → Acc → Op → Option (Plan) := pk_k3d.1
noncomputable def M_k3d : List DA → Option (List RV) := con3 (eT ceConfig) (eT ceAcc) (eT ceOp) (fun x0 x1 x2 => (F_k3d x0 x1 x2).map (res1 (rAgg cePlan)).enc)
theorem cc_k3d : CallC Tryz.prog 41 M_k3d := pk_k3d.2

end Go.Vm
