/- What Go functions come to, as Lean functions: each with its contract. -/
import Derived.Test.YtaidpcnnggknnaaGreatWd
import Derived.Test.YtaidpcnnggknnaaGreatYb
import Derived.Test.YtaidpcnnggknnaaGreatYa
import Derived.Test.YtaidpcnnggknnaaGreatWc
import Derived.Test.YtaidpcnnggknnaaGreatVd
import Derived.Test.YtaidpcnnggknnaaGreatProg

set_option linter.unusedVariables false
set_option linter.unusedSimpArgs false
namespace Go.Vm
open Go Go.RowKit Go.Proofs
attribute [-simp] env0 envI evOps evOne evOp evIndexAddr evIndex evPick binV evLoad evStore loadC callV nilC storeC toDVs toDAs resRs
attribute [local simp] List.lookup List.replicate List.range_succ env0_tree envI_tree

theorem en_k34 : Enters Tryz.prog 45 := ⟨_, Tryz.func45, rfl, rfl⟩
def ty_k34 : List (Nat × TI) := [ti23, ti100, ti31, ti38, ti94, ti35, ti3, ti29, ti34, ti4, ti97, ti98, ti113, ti24, ti68, ti65]
noncomputable def C_k34 : Cfg := mkP (mkC ty_k34 [] [(80, M_kc2), (37, M_k68), (47, M_kc1), (49, M_kbf), (50, M_kc3), (81, M_kc0)] [37, 49, 81] [(7, [(0, 68, 8)])] [2,3,6,7,8,9] [] [(18, [true, true, true, true, true, true, true, true, true, false, false, false, false, true, true])]) [(18, [2, 1000009])]
theorem E_k34 : Env1 Tryz.prog C_k34 := mkP_ok (mkC_ok (by kernel_rfl) (⟨⟨en_kc2, cc_kc2⟩, ⟨⟨en_k68, cc_k68⟩, ⟨⟨en_kc1, cc_kc1⟩, ⟨⟨en_kbf, cc_kbf⟩, ⟨⟨en_kc3, cc_kc3⟩, ⟨⟨en_kc0, cc_kc0⟩, trivial⟩⟩⟩⟩⟩⟩) (by kernel_rfl))
theorem c_law16_live : CIs (C_k34) ty_k34 [] [(80, M_kc2), (37, M_k68), (47, M_kc1), (49, M_kbf), (50, M_kc3), (81, M_kc0)] [80, 37, 47, 49, 50, 81] [37, 49, 81] [(7, [(0, 68, 8)])] [2,3,6,7,8,9] [] [(18, [true, true, true, true, true, true, true, true, true, false, false, false, false, true, true])] [(18, [2, 1000009])] [] := ⟨rfl, rfl, rfl, rfl, rfl, rfl, rfl, rfl, rfl, rfl, rfl⟩
structure L_k34_0 where
  e : Int
  points : Int
  i : Int
  o0 : Config
  s_ : Sight
  t : Task
  events : List Event
def an_k34_0 : Ann := (mkAnn (σ := L_k34_0) (lSkip vUnk <| lSkip vUnk <| lSkip (vOne (cPtr 1 0 0)) <| lCons (vOne cI) <| lSkip vUnk <| lSkip vUnk <| lSkip (vOne (cPtr 2 0 0)) <| lCons (vOne (cOwn 3)) <| lCons (vOne cI) <| lCons (vOne cI) <| K64 <| K64 <| K8 <| lSkip vUnk <| lSkip vUnk <| lSkip vUnk <| lSkip vUnk <|  lNil) (lCons (oBox 23 (cStr ceConfig)) <| lCons (oBox 100 (cStr ceSight)) <| lCons (oBox 94 (cStr ceTask)) <| lCons (oArr 68 8 ceEvent) <|  lNil)
  (fun a b => L_k34_0.mk (a.1) (a.2.2.1) (a.2.2.2.1) (b.1) (b.2.1) (b.2.2.1) (b.2.2.2.1)) (fun s => (s.e, s.events.length, s.points, s.i, ())) (fun s => (s.o0, s.s_, s.t, s.events, ())) (fun a b => decide (a.2.1 = (b.2.2.2.1).length)) (by rintro ⟨a0, a1, a2, a3, _⟩ ⟨b0, b1, b2, b3, _⟩ h; simp at h; simp [h]))
theorem an_k34_0_c (C : Cfg) : an_k34_0.c C = C := rfl
set_option maxRecDepth 100000 in
theorem an_k34_0_st (s : an_k34_0.σ) : an_k34_0.st s = (toL 150 (.node (.node (.node (.node (.node (.node (.node (.leaf (.unk)) (.node (.leaf (.v (.one (.ptr 1 0 0)))) (.leaf (.v (.one (.d (.sc (.int .i64 (L_k34_0.e s))))))))) (.node (.leaf (.unk)) (.node (.leaf (.v (.one (.ptr 2 0 0)))) (.leaf (.v (.one (.own 3 (L_k34_0.events s).length))))))) (.node (.node (.node (.leaf (.v (.one (.d (.sc (.int .i64 (L_k34_0.points s))))))) (.leaf (.v (.one (.d (.sc (.int .i64 (L_k34_0.i s)))))))) (.leaf (.unk))) (.leaf (.unk)))) (.leaf (.unk))) (.leaf (.unk))) (.leaf (.unk))) (.leaf (.unk))), [.box 23 (ddv (Config.c (L_k34_0.o0 s))), .box 100 (ddv (Sight.c (L_k34_0.s_ s))), .box 94 (ddv (Task.c (L_k34_0.t s))), .arr 68 8 ((L_k34_0.events s).map Event.c)]) := rfl
set_option maxHeartbeats 4000000 in
set_option maxRecDepth 100000 in
theorem an_k34_0_un {β : Type} (e : Int) (m1_events : Nat) (points : Int) (i : Int) (p_o0 : List CV) (p_s_ : List CV) (p_t : List CV) (p_events : List (List DV)) (f_ : an_k34_0.σ → Option β) : (an_k34_0.un (.unk :: .unk :: .v (.one (.ptr 1 0 0)) :: .v (.one (.d (.sc (.int .i64 e)))) :: .unk :: .unk :: .v (.one (.ptr 2 0 0)) :: .v (.one (.own 3 m1_events)) :: .v (.one (.d (.sc (.int .i64 points)))) :: .v (.one (.d (.sc (.int .i64 i)))) :: U64 (U64 (U8 (.unk :: .unk :: .unk :: .unk :: [])))) [.box 23 p_o0, .box 100 p_s_, .box 94 p_t, .arr 68 8 p_events]).bind f_ = ((allD p_o0).bind dConfig).bind fun o0 => ((allD p_s_).bind dSight).bind fun s_ => ((allD p_t).bind dTask).bind fun t => (decL dEvent p_events).bind fun events => (if m1_events = events.length then f_ (L_k34_0.mk e points i o0 s_ t events) else none) :=
  (mkAnn_un (σ := L_k34_0) _ _ _ _ _ _ _ _ _ f_).trans (by simp (maxSteps := 10000000) [Option.bind_assoc, U8, U64, K8, K64, bind_ite])
def T_k34 : List (Nat × LoopA) := [(0, .ty an_k34_0)]
set_option maxHeartbeats 20000000 in
set_option maxRecDepth 100000 in
noncomputable def pk_k34 : { F : Option (Bool) // CallC Tryz.prog 45 (con0  ((F).map (res1 rB).enc)) } :=
  ⟨_, cc0 E_k34 Tryz.func45 rfl rfl (T := T_k34) (G := []) (r := (res1 rB)) <| by
    unfold Wf
    simp (maxSteps := 10000000) (implicitDefEqProofs := false) [ty_k34, c_law16_live, T_k34, Tryz.f45, M_kc2, M_k68, M_kc1, M_kbf, M_kc3, M_kc0, an_k34_0_st, an_k34_0_un, an_k34_0_c, iC, uC, bC, sC, Acc.c, Config.c, Event.c, Op.c, Plan.c, Pot.c, Result.c, Shard.c, Sight.c, Task.c, Tx.c]
    try rfl⟩
noncomputable def F_k34 : Option (Bool) := pk_k34.1
noncomputable def M_k34 : List DA → Option (List RV) := con0  ((F_k34).map (res1 rB).enc)
theorem cc_k34 : CallC Tryz.prog 45 M_k34 := pk_k34.2

end Go.Vm
