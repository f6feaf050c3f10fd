/- What Go functions come to, as Lean functions: each with its contract. -/
import Derived.Test.YtaidpcnnggknnaaGreatZa
import Derived.Test.YtaidpcnnggknnaaGreatD
import Derived.Test.YtaidpcnnggknnaaGreatYb
import Derived.Test.YtaidpcnnggknnaaGreatYa
import Derived.Test.YtaidpcnnggknnaaGreatWa
import Derived.Test.YtaidpcnnggknnaaGreatVd
import Derived.Test.YtaidpcnnggknnaaGreatProg

set_option linter.unusedVariables false
set_option linter.unusedSimpArgs false
namespace Go.Vm
open Go Go.RowKit Go.Proofs
attribute [-simp] env0 envI evOps evOne evOp evIndexAddr evIndex evPick binV evLoad evStore loadC callV nilC storeC toDVs toDAs resRs
attribute [local simp] List.lookup List.replicate List.range_succ env0_tree envI_tree

theorem en_k2e : Enters Tryz.prog 10 := ⟨_, Tryz.func10, rfl, rfl⟩
def ty_k2e : List (Nat × TI) := [ti26, ti90, ti9, ti3, ti88, ti85, ti87, ti24, ti23, ti38, ti34, ti94, ti100, ti35, ti39, ti63, ti65, ti68]
noncomputable def C_k2e : Cfg := mkC ty_k2e [] [(43, M_ka3), (44, M_ka0), (45, M_k34), (46, M_k7d), (24, M_k90), (14, M_k49), (47, M_kc1), (48, M_k2d), (49, M_kbf), (50, M_kc3), (51, M_k33), (17, M_k8f), (18, M_k8c), (16, M_k79)] [43, 44, 45, 24, 49, 17, 18, 16] [(14, [(0, 68, 8)])] [1,3,5,7,8,9,10,11,12,13,14,15,16,21,22,999999] [] [(7, [true, false, true, true, false, true, true, true, true, true, true, true, true, true]), (26, [true, false, true, true, true, true, true, true, false, false, true, true, true, true, true, true, false, true, true, true, true, true, false, true, true, true, true, true, true, true, true, true, true, true, true])]
theorem E_k2e : Env1 Tryz.prog C_k2e := mkC_ok (by kernel_rfl) (⟨⟨en_ka3, cc_ka3⟩, ⟨⟨en_ka0, cc_ka0⟩, ⟨⟨en_k34, cc_k34⟩, ⟨⟨en_k7d, cc_k7d⟩, ⟨⟨en_k90, cc_k90⟩, ⟨⟨en_k49, cc_k49⟩, ⟨⟨en_kc1, cc_kc1⟩, ⟨⟨en_k2d, cc_k2d⟩, ⟨⟨en_kbf, cc_kbf⟩, ⟨⟨en_kc3, cc_kc3⟩, ⟨⟨en_k33, cc_k33⟩, ⟨⟨en_k8f, cc_k8f⟩, ⟨⟨en_k8c, cc_k8c⟩, ⟨⟨en_k79, cc_k79⟩, trivial⟩⟩⟩⟩⟩⟩⟩⟩⟩⟩⟩⟩⟩⟩) (by kernel_rfl)
theorem c_law16_TaskAlone : CIs (C_k2e) ty_k2e [] [(43, M_ka3), (44, M_ka0), (45, M_k34), (46, M_k7d), (24, M_k90), (14, M_k49), (47, M_kc1), (48, M_k2d), (49, M_kbf), (50, M_kc3), (51, M_k33), (17, M_k8f), (18, M_k8c), (16, M_k79)] [43, 44, 45, 46, 24, 14, 47, 48, 49, 50, 51, 17, 18, 16] [43, 44, 45, 24, 49, 17, 18, 16] [(14, [(0, 68, 8)])] [1,3,5,7,8,9,10,11,12,13,14,15,16,21,22,999999] [] [(7, [true, false, true, true, false, true, true, true, true, true, true, true, true, true]), (26, [true, false, true, true, true, true, true, true, false, false, true, true, true, true, true, true, false, true, true, true, true, true, false, true, true, true, true, true, true, true, true, true, true, true, true])] [] [] := ⟨rfl, rfl, rfl, rfl, rfl, rfl, rfl, rfl, rfl, rfl, rfl⟩
structure L_k2e_0 where
  who : Int
  l : List Acc
  i : Int
  o : Op
  s_ : Sight
def an_k2e_0 : Ann := (mkAnn (σ := L_k2e_0) (lSkip vUnk <| lCons (vOne cI) <| lSkip vUnk <| lSkip (vOne (cPtr 0 0 0)) <| lSkip vUnk <| lSkip (vOne (cPtr 1 0 0)) <| lSkip vUnk <| lCons (vOne (cSl ceAcc)) <| lCons (vOne cI) <| lSkip vTup <| lSkip vTup <| lSkip vTup <| lSkip vTup <| lSkip vTup <| lSkip vTup <| lSkip vTup <| lSkip vTup <| lSkip vUnk <| lSkip vUnk <| lSkip vUnk <| lSkip vUnk <| lSkip vTup <| lSkip vTup <| K64 <| K64 <| K8 <| K8 <| K8 <| lSkip vUnk <| lSkip vUnk <| lSkip vUnk <| lSkip vUnk <|  lNil) (lCons (oBox 26 (cStr ceOp)) <| lCons (oBox 90 (cStr ceSight)) <|  lNil)
  (fun a b => L_k2e_0.mk (a.1) (a.2.1) (a.2.2.1) (b.1) (b.2.1)) (fun s => (s.who, s.l, s.i, ())) (fun s => (s.o, s.s_, ())) (fun a b => true) (fun _ _ _ => ⟨rfl, rfl⟩))
theorem an_k2e_0_c (C : Cfg) : an_k2e_0.c C = C := rfl
set_option maxRecDepth 100000 in
theorem an_k2e_0_st (s : an_k2e_0.σ) : an_k2e_0.st s = (toL 179 (.node (.node (.node (.node (.node (.node (.node (.node (.leaf (.unk)) (.leaf (.v (.one (.d (.sc (.int .i64 (L_k2e_0.who s)))))))) (.node (.leaf (.unk)) (.leaf (.v (.one (.ptr 0 0 0)))))) (.node (.node (.leaf (.unk)) (.leaf (.v (.one (.ptr 1 0 0))))) (.node (.leaf (.unk)) (.leaf (.v (.one (.d (.sl ((L_k2e_0.l s).map Acc.c))))))))) (.node (.node (.node (.leaf (.v (.one (.d (.sc (.int .i64 (L_k2e_0.i s))))))) (.leaf (.tup []))) (.leaf (.tup []))) (.leaf (.tup [])))) (.node (.node (.node (.node (.leaf (.tup [])) (.leaf (.unk))) (.leaf (.unk))) (.node (.node (.leaf (.unk)) (.leaf (.tup []))) (.node (.leaf (.tup [])) (.leaf (.unk))))) (.leaf (.unk)))) (.leaf (.unk))) (.leaf (.unk))) (.leaf (.unk))), [.box 26 (ddv (Op.c (L_k2e_0.o s))), .box 90 (ddv (Sight.c (L_k2e_0.s_ s)))]) := rfl
set_option maxHeartbeats 4000000 in
set_option maxRecDepth 100000 in
theorem an_k2e_0_un {β : Type} (who : Int) (p_l : List (List DV)) (i : Int) (p_o : List CV) (p_s_ : List CV) (f_ : an_k2e_0.σ → Option β) : (an_k2e_0.un (.unk :: .v (.one (.d (.sc (.int .i64 who)))) :: .unk :: .v (.one (.ptr 0 0 0)) :: .unk :: .v (.one (.ptr 1 0 0)) :: .unk :: .v (.one (.d (.sl p_l))) :: .v (.one (.d (.sc (.int .i64 i)))) :: .tup [] :: .tup [] :: .tup [] :: .tup [] :: .tup [] :: .tup [] :: .tup [] :: .tup [] :: .unk :: .unk :: .unk :: .unk :: .tup [] :: .tup [] :: U64 (U64 (U8 (U8 (U8 (.unk :: .unk :: .unk :: .unk :: [])))))) [.box 26 p_o, .box 90 p_s_]).bind f_ = (decL dAcc p_l).bind fun l => ((allD p_o).bind dOp).bind fun o => ((allD p_s_).bind dSight).bind fun s_ => f_ (L_k2e_0.mk who l i o s_) :=
  (mkAnn_un (σ := L_k2e_0) _ _ _ _ _ _ _ _ _ f_).trans (by simp (maxSteps := 10000000) [Option.bind_assoc, U8, U64, K8, K64])
structure L_k2e_2 where
  who : Int
  l : List Acc
  i : Int
  after : List Acc
  events : List Event
  points : Int
  i2 : Int
  o : Op
  s_ : Sight
  r : Result
  t : Task
  x : Sight
  told : List Event
def an_k2e_2 : Ann := (mkAnn (σ := L_k2e_2) (lSkip vUnk <| lCons (vOne cI) <| lSkip vUnk <| lSkip (vOne (cPtr 0 0 0)) <| lSkip vUnk <| lSkip (vOne (cPtr 1 0 0)) <| lSkip vUnk <| lCons (vOne (cSl ceAcc)) <| lCons (vOne cI) <| lCons (vOne (cSl ceAcc)) <| lSkip (vOne (cPtr 2 0 0)) <| lCons (vOne (cSl ceEvent)) <| lSkip (vOne (cPtr 3 0 0)) <| lSkip (vOne (cPtr 4 0 0)) <| lCons (vOne (cOwn 5)) <| lCons (vOne cI) <| lCons (vOne cI) <| lSkip vUnk <| lSkip vUnk <| lSkip vUnk <| lSkip vUnk <| lSkip vTup <| lSkip vTup <| K64 <| K64 <| K8 <| K8 <| K8 <| lSkip vUnk <| lSkip vUnk <| lSkip vUnk <| lSkip vUnk <|  lNil) (lCons (oBox 26 (cStr ceOp)) <| lCons (oBox 90 (cStr ceSight)) <| lCons (oBox 34 (cStr ceResult)) <| lCons (oBox 94 (cStr ceTask)) <| lCons (oBox 100 (cStr ceSight)) <| lCons (oArr 68 8 ceEvent) <|  lNil)
  (fun a b => L_k2e_2.mk (a.1) (a.2.1) (a.2.2.1) (a.2.2.2.1) (a.2.2.2.2.1) (a.2.2.2.2.2.2.1) (a.2.2.2.2.2.2.2.1) (b.1) (b.2.1) (b.2.2.1) (b.2.2.2.1) (b.2.2.2.2.1) (b.2.2.2.2.2.1)) (fun s => (s.who, s.l, s.i, s.after, s.events, s.told.length, s.points, s.i2, ())) (fun s => (s.o, s.s_, s.r, s.t, s.x, s.told, ())) (fun a b => decide (a.2.2.2.2.2.1 = (b.2.2.2.2.2.1).length)) (by rintro ⟨a0, a1, a2, a3, a4, a5, a6, a7, _⟩ ⟨b0, b1, b2, b3, b4, b5, _⟩ h; simp at h; simp [h]))
theorem an_k2e_2_c (C : Cfg) : an_k2e_2.c C = C := rfl
set_option maxRecDepth 100000 in
theorem an_k2e_2_st (s : an_k2e_2.σ) : an_k2e_2.st s = (toL 179 (.node (.node (.node (.node (.node (.node (.node (.node (.leaf (.unk)) (.leaf (.v (.one (.d (.sc (.int .i64 (L_k2e_2.who s)))))))) (.node (.leaf (.unk)) (.leaf (.v (.one (.ptr 0 0 0)))))) (.node (.node (.leaf (.unk)) (.leaf (.v (.one (.ptr 1 0 0))))) (.node (.leaf (.unk)) (.leaf (.v (.one (.d (.sl ((L_k2e_2.l s).map Acc.c))))))))) (.node (.node (.node (.leaf (.v (.one (.d (.sc (.int .i64 (L_k2e_2.i s))))))) (.leaf (.v (.one (.d (.sl ((L_k2e_2.after s).map Acc.c))))))) (.node (.leaf (.v (.one (.ptr 2 0 0)))) (.leaf (.v (.one (.d (.sl ((L_k2e_2.events s).map Event.c)))))))) (.node (.node (.leaf (.v (.one (.ptr 3 0 0)))) (.leaf (.v (.one (.ptr 4 0 0))))) (.node (.leaf (.v (.one (.own 5 (L_k2e_2.told s).length)))) (.leaf (.v (.one (.d (.sc (.int .i64 (L_k2e_2.points s))))))))))) (.node (.node (.node (.node (.leaf (.v (.one (.d (.sc (.int .i64 (L_k2e_2.i2 s))))))) (.leaf (.unk))) (.leaf (.unk))) (.node (.node (.leaf (.unk)) (.leaf (.tup []))) (.node (.leaf (.tup [])) (.leaf (.unk))))) (.leaf (.unk)))) (.leaf (.unk))) (.leaf (.unk))) (.leaf (.unk))), [.box 26 (ddv (Op.c (L_k2e_2.o s))), .box 90 (ddv (Sight.c (L_k2e_2.s_ s))), .box 34 (ddv (Result.c (L_k2e_2.r s))), .box 94 (ddv (Task.c (L_k2e_2.t s))), .box 100 (ddv (Sight.c (L_k2e_2.x s))), .arr 68 8 ((L_k2e_2.told s).map Event.c)]) := rfl
set_option maxHeartbeats 4000000 in
set_option maxRecDepth 100000 in
theorem an_k2e_2_un {β : Type} (who : Int) (p_l : List (List DV)) (i : Int) (p_after : List (List DV)) (p_events : List (List DV)) (m1_told : Nat) (points : Int) (i2 : Int) (p_o : List CV) (p_s_ : List CV) (p_r : List CV) (p_t : List CV) (p_x : List CV) (p_told : List (List DV)) (f_ : an_k2e_2.σ → Option β) : (an_k2e_2.un (.unk :: .v (.one (.d (.sc (.int .i64 who)))) :: .unk :: .v (.one (.ptr 0 0 0)) :: .unk :: .v (.one (.ptr 1 0 0)) :: .unk :: .v (.one (.d (.sl p_l))) :: .v (.one (.d (.sc (.int .i64 i)))) :: .v (.one (.d (.sl p_after))) :: .v (.one (.ptr 2 0 0)) :: .v (.one (.d (.sl p_events))) :: .v (.one (.ptr 3 0 0)) :: .v (.one (.ptr 4 0 0)) :: .v (.one (.own 5 m1_told)) :: .v (.one (.d (.sc (.int .i64 points)))) :: .v (.one (.d (.sc (.int .i64 i2)))) :: .unk :: .unk :: .unk :: .unk :: .tup [] :: .tup [] :: U64 (U64 (U8 (U8 (U8 (.unk :: .unk :: .unk :: .unk :: [])))))) [.box 26 p_o, .box 90 p_s_, .box 34 p_r, .box 94 p_t, .box 100 p_x, .arr 68 8 p_told]).bind f_ = (decL dAcc p_l).bind fun l => (decL dAcc p_after).bind fun after => (decL dEvent p_events).bind fun events => ((allD p_o).bind dOp).bind fun o => ((allD p_s_).bind dSight).bind fun s_ => ((allD p_r).bind dResult).bind fun r => ((allD p_t).bind dTask).bind fun t => ((allD p_x).bind dSight).bind fun x => (decL dEvent p_told).bind fun told => (if m1_told = told.length then f_ (L_k2e_2.mk who l i after events points i2 o s_ r t x told) else none) :=
  (mkAnn_un (σ := L_k2e_2) _ _ _ _ _ _ _ _ _ f_).trans (by simp (maxSteps := 10000000) [Option.bind_assoc, U8, U64, K8, K64, bind_ite])
structure L_k2e_4 where
  who : Int
  l : List Acc
  i : Int
  after : List Acc
  events : List Event
  points : Int
  i2 : Int
  i3 : Int
  o : Op
  s_ : Sight
  r : Result
  t : Task
  x : Sight
  told : List Event
  y : Sight
def an_k2e_4 : Ann := (mkAnn (σ := L_k2e_4) (lSkip vUnk <| lCons (vOne cI) <| lSkip vUnk <| lSkip (vOne (cPtr 0 0 0)) <| lSkip vUnk <| lSkip (vOne (cPtr 1 0 0)) <| lSkip vUnk <| lCons (vOne (cSl ceAcc)) <| lCons (vOne cI) <| lCons (vOne (cSl ceAcc)) <| lSkip (vOne (cPtr 2 0 0)) <| lCons (vOne (cSl ceEvent)) <| lSkip (vOne (cPtr 3 0 0)) <| lSkip (vOne (cPtr 4 0 0)) <| lCons (vOne (cOwn 5)) <| lCons (vOne cI) <| lCons (vOne cI) <| lSkip vUnk <| lSkip vUnk <| lSkip vUnk <| lSkip vUnk <| lSkip (vOne (cPtr 6 0 0)) <| lCons (vOne cI) <| K64 <| K64 <| K8 <| K8 <| K8 <| lSkip vUnk <| lSkip vUnk <| lSkip vUnk <| lSkip vUnk <|  lNil) (lCons (oBox 26 (cStr ceOp)) <| lCons (oBox 90 (cStr ceSight)) <| lCons (oBox 34 (cStr ceResult)) <| lCons (oBox 94 (cStr ceTask)) <| lCons (oBox 100 (cStr ceSight)) <| lCons (oArr 68 8 ceEvent) <| lCons (oBox 90 (cStr ceSight)) <|  lNil)
  (fun a b => L_k2e_4.mk (a.1) (a.2.1) (a.2.2.1) (a.2.2.2.1) (a.2.2.2.2.1) (a.2.2.2.2.2.2.1) (a.2.2.2.2.2.2.2.1) (a.2.2.2.2.2.2.2.2.1) (b.1) (b.2.1) (b.2.2.1) (b.2.2.2.1) (b.2.2.2.2.1) (b.2.2.2.2.2.1) (b.2.2.2.2.2.2.1)) (fun s => (s.who, s.l, s.i, s.after, s.events, s.told.length, s.points, s.i2, s.i3, ())) (fun s => (s.o, s.s_, s.r, s.t, s.x, s.told, s.y, ())) (fun a b => decide (a.2.2.2.2.2.1 = (b.2.2.2.2.2.1).length)) (by rintro ⟨a0, a1, a2, a3, a4, a5, a6, a7, a8, _⟩ ⟨b0, b1, b2, b3, b4, b5, b6, _⟩ h; simp at h; simp [h]))
theorem an_k2e_4_c (C : Cfg) : an_k2e_4.c C = C := rfl
set_option maxRecDepth 100000 in
theorem an_k2e_4_st (s : an_k2e_4.σ) : an_k2e_4.st s = (toL 179 (.node (.node (.node (.node (.node (.node (.node (.node (.leaf (.unk)) (.leaf (.v (.one (.d (.sc (.int .i64 (L_k2e_4.who s)))))))) (.node (.leaf (.unk)) (.leaf (.v (.one (.ptr 0 0 0)))))) (.node (.node (.leaf (.unk)) (.leaf (.v (.one (.ptr 1 0 0))))) (.node (.leaf (.unk)) (.leaf (.v (.one (.d (.sl ((L_k2e_4.l s).map Acc.c))))))))) (.node (.node (.node (.leaf (.v (.one (.d (.sc (.int .i64 (L_k2e_4.i s))))))) (.leaf (.v (.one (.d (.sl ((L_k2e_4.after s).map Acc.c))))))) (.node (.leaf (.v (.one (.ptr 2 0 0)))) (.leaf (.v (.one (.d (.sl ((L_k2e_4.events s).map Event.c)))))))) (.node (.node (.leaf (.v (.one (.ptr 3 0 0)))) (.leaf (.v (.one (.ptr 4 0 0))))) (.node (.leaf (.v (.one (.own 5 (L_k2e_4.told s).length)))) (.leaf (.v (.one (.d (.sc (.int .i64 (L_k2e_4.points s))))))))))) (.node (.node (.node (.node (.leaf (.v (.one (.d (.sc (.int .i64 (L_k2e_4.i2 s))))))) (.leaf (.unk))) (.leaf (.unk))) (.node (.node (.leaf (.unk)) (.leaf (.v (.one (.ptr 6 0 0))))) (.node (.leaf (.v (.one (.d (.sc (.int .i64 (L_k2e_4.i3 s))))))) (.leaf (.unk))))) (.leaf (.unk)))) (.leaf (.unk))) (.leaf (.unk))) (.leaf (.unk))), [.box 26 (ddv (Op.c (L_k2e_4.o s))), .box 90 (ddv (Sight.c (L_k2e_4.s_ s))), .box 34 (ddv (Result.c (L_k2e_4.r s))), .box 94 (ddv (Task.c (L_k2e_4.t s))), .box 100 (ddv (Sight.c (L_k2e_4.x s))), .arr 68 8 ((L_k2e_4.told s).map Event.c), .box 90 (ddv (Sight.c (L_k2e_4.y s)))]) := rfl
set_option maxHeartbeats 4000000 in
set_option maxRecDepth 100000 in
theorem an_k2e_4_un {β : Type} (who : Int) (p_l : List (List DV)) (i : Int) (p_after : List (List DV)) (p_events : List (List DV)) (m1_told : Nat) (points : Int) (i2 : Int) (i3 : Int) (p_o : List CV) (p_s_ : List CV) (p_r : List CV) (p_t : List CV) (p_x : List CV) (p_told : List (List DV)) (p_y : List CV) (f_ : an_k2e_4.σ → Option β) : (an_k2e_4.un (.unk :: .v (.one (.d (.sc (.int .i64 who)))) :: .unk :: .v (.one (.ptr 0 0 0)) :: .unk :: .v (.one (.ptr 1 0 0)) :: .unk :: .v (.one (.d (.sl p_l))) :: .v (.one (.d (.sc (.int .i64 i)))) :: .v (.one (.d (.sl p_after))) :: .v (.one (.ptr 2 0 0)) :: .v (.one (.d (.sl p_events))) :: .v (.one (.ptr 3 0 0)) :: .v (.one (.ptr 4 0 0)) :: .v (.one (.own 5 m1_told)) :: .v (.one (.d (.sc (.int .i64 points)))) :: .v (.one (.d (.sc (.int .i64 i2)))) :: .unk :: .unk :: .unk :: .unk :: .v (.one (.ptr 6 0 0)) :: .v (.one (.d (.sc (.int .i64 i3)))) :: U64 (U64 (U8 (U8 (U8 (.unk :: .unk :: .unk :: .unk :: [])))))) [.box 26 p_o, .box 90 p_s_, .box 34 p_r, .box 94 p_t, .box 100 p_x, .arr 68 8 p_told, .box 90 p_y]).bind f_ = (decL dAcc p_l).bind fun l => (decL dAcc p_after).bind fun after => (decL dEvent p_events).bind fun events => ((allD p_o).bind dOp).bind fun o => ((allD p_s_).bind dSight).bind fun s_ => ((allD p_r).bind dResult).bind fun r => ((allD p_t).bind dTask).bind fun t => ((allD p_x).bind dSight).bind fun x => (decL dEvent p_told).bind fun told => ((allD p_y).bind dSight).bind fun y => (if m1_told = told.length then f_ (L_k2e_4.mk who l i after events points i2 i3 o s_ r t x told y) else none) :=
  (mkAnn_un (σ := L_k2e_4) _ _ _ _ _ _ _ _ _ f_).trans (by simp (maxSteps := 10000000) [Option.bind_assoc, U8, U64, K8, K64, bind_ite])
def T_k2e : List (Nat × LoopA) := [(0, .ty an_k2e_0), (2, .ty an_k2e_2), (4, .ty an_k2e_4)]
set_option maxHeartbeats 20000000 in
set_option maxRecDepth 100000 in
noncomputable def pk_k2e : { F : Op → Int → Sight → Option (Bool) // CallC Tryz.prog 10 (con3 (eT ceOp) eInt (eT ceSight) (fun x0 x1 x2 => (F x0 x1 x2).map (res1 rB).enc)) } :=
  ⟨_, cc3 E_k2e Tryz.func10 rfl rfl (T := T_k2e) (G := []) (r := (res1 rB)) fun x0 x1 x2 => by
    unfold Wf
    simp (maxSteps := 10000000) (implicitDefEqProofs := false) [ty_k2e, c_law16_TaskAlone, T_k2e, Tryz.f10, M_ka3, M_ka0, M_k34, M_k7d, M_k90, M_k49, M_kc1, M_k2d, M_kbf, M_kc3, M_k33, M_k8f, M_k8c, M_k79, an_k2e_0_st, an_k2e_0_un, an_k2e_0_c, an_k2e_2_st, an_k2e_2_un, an_k2e_2_c, an_k2e_4_st, an_k2e_4_un, an_k2e_4_c, iC, uC, bC, sC, Acc.c, Config.c, Event.c, Op.c, Plan.c, Pot.c, Result.c, Shard.c, Sight.c, Task.c, Tx.c]
    try rfl⟩
noncomputable def F_k2e : Op → Int → Sight → Option (Bool) := pk_k2e.1
noncomputable def M_k2e : List DA → Option (List RV) := con3 (eT ceOp) eInt (eT ceSight) (fun x0 x1 x2 => (F_k2e x0 x1 x2).map (res1 rB).enc)
theorem cc_k2e : CallC Tryz.prog 10 M_k2e := pk_k2e.2

end Go.Vm
