/- What Go functions come to, as Lean functions: each with its contract. -/
import Derived.Test.YtmdccbecmilljaaL
import Derived.Test.YtmdccbecmilljaaProg
import Derived.Test.YtmdccbecmilljaaR
import Derived.OpenShut

set_option linter.unusedVariables false
set_option linter.unusedSimpArgs false
namespace Go.Vm
open Go Go.RowKit

theorem told_eq (p : Plan) : F_law15_Told p = some p := rfl
/-! ### hopper/hopperlaw15.LookTells -/
theorem en_law15_LookTells : Enters Go.Proofs.Try.prog 3 := ⟨_, Go.Proofs.Try.func3, rfl, rfl⟩
def ty_law15_LookTells : List (Nat × TI) := [(23, { size := 8, bytes := 64, agg := true, zero := [.sc (.int .i64 0), .sc (.int .i64 0), .sc (.int .i64 0), .sc (.int .i64 0), .sc (.int .i64 0), .sc (.int .i64 0), .sc (.int .i64 0), .sc (.int .i64 0)], kind := .struct [(0, 1, false), (1, 1, false), (2, 1, false), (3, 1, false), (4, 1, false), (5, 1, false), (6, 1, false), (7, 1, false)] }), (26, { size := 3, bytes := 40, agg := true, zero := [.sc (.int .i64 0), .sc (.int .i64 0), .sl []], kind := .struct [(0, 1, false), (1, 1, false), (2, 1, false)] }), (28, { size := 5, bytes := 48, agg := true, zero := [.sc (.int .i64 0), .sc (.int .i64 0), .sc (.int .i64 0), .sc (.int .i64 0), .sc (.string "".toByteArray)], kind := .struct [(0, 1, false), (1, 1, false), (2, 1, false), (3, 1, false), (4, 1, false)] }), (9, { size := 1, bytes := 16, agg := false, zero := [.sc (.string "".toByteArray)], kind := .str }), (3, { size := 1, bytes := 8, agg := false, zero := [.sc (.int .i64 0)], kind := .int .i64 }), (40, { size := 5, bytes := 48, agg := true, zero := [.sc (.int .i64 0), .sc (.int .i64 0), .sc (.int .i64 0), .sc (.int .i64 0), .sc (.string "".toByteArray)], kind := .struct [(0, 1, false), (1, 1, false), (2, 1, false), (3, 1, false), (4, 1, false)] }), (38, { size := 15, bytes := 176, agg := true, zero := [.sc (.bool false), .sc (.int .i64 0), .sc (.int .i64 0), .sc (.int .i64 0), .sl [], .sl [], .sc (.int .i64 0), .sc (.int .i64 0), .sc (.int .i64 0), .sc (.int .i64 0), .sc (.int .i64 0), .sc (.int .i64 0), .sc (.string "".toByteArray), .sl [], .sc (.int .i64 0)], kind := .struct [(0, 1, false), (1, 1, false), (2, 3, true), (5, 1, false), (6, 9, true)] }), (43, { size := 15, bytes := 176, agg := true, zero := [.sc (.bool false), .sc (.int .i64 0), .sc (.int .i64 0), .sc (.int .i64 0), .sl [], .sl [], .sc (.int .i64 0), .sc (.int .i64 0), .sc (.int .i64 0), .sc (.int .i64 0), .sc (.int .i64 0), .sc (.int .i64 0), .sc (.string "".toByteArray), .sl [], .sc (.int .i64 0)], kind := .struct [(0, 1, false), (1, 1, false), (2, 3, true), (5, 1, false), (6, 9, true)] }), (4, { size := 1, bytes := 1, agg := false, zero := [.sc (.bool false)], kind := .bool }), (41, { size := 9, bytes := 96, agg := true, zero := [.sc (.int .i64 0), .sc (.int .i64 0), .sc (.int .i64 0), .sc (.int .i64 0), .sc (.int .i64 0), .sc (.int .i64 0), .sc (.string "".toByteArray), .sl [], .sc (.int .i64 0)], kind := .struct [(0, 1, false), (1, 6, true), (7, 1, false), (8, 1, false)] })]
noncomputable def C_law15_LookTells : Cfg := mkC ty_law15_LookTells [] [(7, M_r05_Small), (8, M_law15_live), (9, M_look_Look), (10, M_r15_Look), (11, M_look_Whose), (12, M_r15_Whose), (14, M_law15_Told), (13, M_r15_Same), (15, M_look_Drop), (16, M_r15_Drop), (18, M_look_Full), (19, M_r15_Full), (17, M_r13_Same)] [7, 8, 11, 12, 13, 17] [] [] [] [(7, [true, true, true, false, true, true, true, true, true, true, true, true, true, true, true, true, true, true, true, true, true, true, true, false, false, true, true, true, true, true, false, false, true, true, false, true, true])]
theorem E_law15_LookTells : Env1 Go.Proofs.Try.prog C_law15_LookTells := mkC_ok (by kernel_rfl) (⟨⟨en_r05_Small, cc_r05_Small⟩, ⟨⟨en_law15_live, cc_law15_live⟩, ⟨⟨en_look_Look, cc_look_Look⟩, ⟨⟨en_r15_Look, cc_r15_Look⟩, ⟨⟨en_look_Whose, cc_look_Whose⟩, ⟨⟨en_r15_Whose, cc_r15_Whose⟩, ⟨⟨en_law15_Told, cc_law15_Told⟩, ⟨⟨en_r15_Same, cc_r15_Same⟩, ⟨⟨en_look_Drop, cc_look_Drop⟩, ⟨⟨en_r15_Drop, cc_r15_Drop⟩, ⟨⟨en_look_Full, cc_look_Full⟩, ⟨⟨en_r15_Full, cc_r15_Full⟩, ⟨⟨en_r13_Same, cc_r13_Same⟩, trivial⟩⟩⟩⟩⟩⟩⟩⟩⟩⟩⟩⟩⟩) (by kernel_rfl)
theorem C_law15_LookTells_ty : (C_law15_LookTells).ty = ty_law15_LookTells := rfl
theorem C_law15_LookTells_eqs : (C_law15_LookTells).eqs = [] := rfl
theorem C_law15_LookTells_call : (C_law15_LookTells).call = fun f => (([(7, M_r05_Small), (8, M_law15_live), (9, M_look_Look), (10, M_r15_Look), (11, M_look_Whose), (12, M_r15_Whose), (14, M_law15_Told), (13, M_r15_Same), (15, M_look_Drop), (16, M_r15_Drop), (18, M_look_Full), (19, M_r15_Full), (17, M_r13_Same)] : List (Nat × (List DA → Option (List RV)))).lookup f).getD fun _ => none := rfl
theorem C_law15_LookTells_calls : (C_law15_LookTells).calls = [7, 8, 9, 10, 11, 12, 14, 13, 15, 16, 18, 19, 17] := rfl
theorem C_law15_LookTells_scal : (C_law15_LookTells).scal = [7, 8, 11, 12, 13, 17] := rfl
theorem C_law15_LookTells_owns : (C_law15_LookTells).owns = [] := rfl
theorem C_law15_LookTells_vars : (C_law15_LookTells).vars = [] := rfl
theorem C_law15_LookTells_ores : (C_law15_LookTells).ores = [] := rfl
theorem C_law15_LookTells_flags : (C_law15_LookTells).flags = [(7, [true, true, true, false, true, true, true, true, true, true, true, true, true, true, true, true, true, true, true, true, true, true, true, false, false, true, true, true, true, true, false, false, true, true, false, true, true])] := rfl
theorem C_law15_LookTells_pins : (C_law15_LookTells).pins = [] := rfl
theorem C_law15_LookTells_inls : (C_law15_LookTells).inls = [] := rfl
def T_law15_LookTells : List (Nat × LoopA) := []
noncomputable def F_law15_LookTells : Config → Acc → Op → Option (Bool) := fun x0 x1 x2 => Wfn C_law15_LookTells T_law15_LookTells [] Go.Proofs.Try.f3 (res1 rB) [(eT ceConfig).enc x0, (eT ceAcc).enc x1, (eT ceOp).enc x2]
noncomputable def M_law15_LookTells : List DA → Option (List RV) := con3 (eT ceConfig) (eT ceAcc) (eT ceOp) (fun x0 x1 x2 => (F_law15_LookTells x0 x1 x2).map (res1 rB).enc)
set_option maxRecDepth 100000 in
theorem cc_law15_LookTells : CallC Go.Proofs.Try.prog 3 M_law15_LookTells := cc3 E_law15_LookTells Go.Proofs.Try.func3 rfl rfl (T := T_law15_LookTells) (G := []) (r := (res1 rB)) fun x0 x1 x2 => by unfold F_law15_LookTells; exact Wfn_eq rfl
set_option maxHeartbeats 20000000 in
set_option maxRecDepth 100000 in
theorem w_law15_LookTells_a (x0 : Config) (x1 : Acc) (x2 : Op) (hs : F_r05_Small x1 = some false) (hl : F_law15_live = some true) : F_law15_LookTells x0 x1 x2 = some true := by
    unfold F_law15_LookTells Wfn
    simp only [Go.Proofs.Try.f3]
    unfold Wf
    simp (maxSteps := 10000000) (implicitDefEqProofs := false) [-evOps, -evOne, -evOp, -evIndexAddr, -evIndex, -evPick, -binV, -evLoad, -evStore, -loadC, -callV, -nilC, -storeC, -toDVs, -toDAs, -resRs, List.lookup, List.replicate, List.range_succ, ty_law15_LookTells, C_law15_LookTells_ty, C_law15_LookTells_eqs, C_law15_LookTells_call, C_law15_LookTells_calls, C_law15_LookTells_scal, C_law15_LookTells_owns, C_law15_LookTells_vars, C_law15_LookTells_ores, C_law15_LookTells_flags, C_law15_LookTells_pins, C_law15_LookTells_inls, T_law15_LookTells, Go.Proofs.Try.f3, M_r05_Small, M_law15_live, M_look_Look, M_r15_Look, M_look_Whose, M_r15_Whose, M_law15_Told, M_r15_Same, M_look_Drop, M_r15_Drop, M_look_Full, M_r15_Full, M_r13_Same, iC, uC, bC, sC, Acc.c, Config.c, Event.c, Op.c, Plan.c, Result.c, Tx.c, hs, hl]
    all_goals rfl
set_option maxHeartbeats 20000000 in
set_option maxRecDepth 100000 in
theorem w_law15_LookTells_b (x0 : Config) (x1 : Acc) (x2 : Op) (hs : F_r05_Small x1 = some true) (hd : (500 : Int) < x2.data.size) (hl : F_law15_live = some true) : F_law15_LookTells x0 x1 x2 = some true := by
    unfold F_law15_LookTells Wfn
    simp only [Go.Proofs.Try.f3]
    unfold Wf
    simp (maxSteps := 10000000) (implicitDefEqProofs := false) [-evOps, -evOne, -evOp, -evIndexAddr, -evIndex, -evPick, -binV, -evLoad, -evStore, -loadC, -callV, -nilC, -storeC, -toDVs, -toDAs, -resRs, List.lookup, List.replicate, List.range_succ, ty_law15_LookTells, C_law15_LookTells_ty, C_law15_LookTells_eqs, C_law15_LookTells_call, C_law15_LookTells_calls, C_law15_LookTells_scal, C_law15_LookTells_owns, C_law15_LookTells_vars, C_law15_LookTells_ores, C_law15_LookTells_flags, C_law15_LookTells_pins, C_law15_LookTells_inls, T_law15_LookTells, Go.Proofs.Try.f3, M_r05_Small, M_law15_live, M_look_Look, M_r15_Look, M_look_Whose, M_r15_Whose, M_law15_Told, M_r15_Same, M_look_Drop, M_r15_Drop, M_look_Full, M_r15_Full, M_r13_Same, iC, uC, bC, sC, Acc.c, Config.c, Event.c, Op.c, Plan.c, Result.c, Tx.c, hs, hd, hl]
    all_goals rfl
set_option maxHeartbeats 20000000 in
set_option maxRecDepth 100000 in
theorem w_law15_LookTells_c (x0 : Config) (x1 : Acc) (x2 : Op) (hs : F_r05_Small x1 = some true) (hd : ¬ (500 : Int) < x2.data.size) (p d : Plan) (w : Int × Bool) (u : Result) (h1 : F_look_Look x0 x1 x2 = some p) (h2 : F_r15_Look x0 x1 x2 = some p) (h3 : F_look_Whose x2 = some w) (h4 : F_r15_Whose x2 = some w) (h5 : F_r15_Same p p = some true) (h6 : F_look_Drop x1 x2.nonce = some d) (h7 : F_r15_Drop x1 x2.nonce = some d) (h8 : F_r15_Same d d = some true) (h9 : F_look_Full p = some u) (h10 : F_r15_Full p = some u) (h11 : F_r13_Same u u = some true) (hl : F_law15_live = some true) : F_law15_LookTells x0 x1 x2 = some true := by
    unfold F_law15_LookTells Wfn
    simp only [Go.Proofs.Try.f3]
    unfold Wf
    simp (maxSteps := 10000000) (implicitDefEqProofs := false) [-evOps, -evOne, -evOp, -evIndexAddr, -evIndex, -evPick, -binV, -evLoad, -evStore, -loadC, -callV, -nilC, -storeC, -toDVs, -toDAs, -resRs, List.lookup, List.replicate, List.range_succ, ty_law15_LookTells, C_law15_LookTells_ty, C_law15_LookTells_eqs, C_law15_LookTells_call, C_law15_LookTells_calls, C_law15_LookTells_scal, C_law15_LookTells_owns, C_law15_LookTells_vars, C_law15_LookTells_ores, C_law15_LookTells_flags, C_law15_LookTells_pins, C_law15_LookTells_inls, T_law15_LookTells, Go.Proofs.Try.f3, M_r05_Small, M_law15_live, M_look_Look, M_r15_Look, M_look_Whose, M_r15_Whose, M_law15_Told, M_r15_Same, M_look_Drop, M_r15_Drop, M_look_Full, M_r15_Full, M_r13_Same, iC, uC, bC, sC, Acc.c, Config.c, Event.c, Op.c, Plan.c, Result.c, Tx.c, hs, hd, h1, h2, h3, h4, h5, h6, h7, h8, h9, h10, h11, told_eq, hl]
    all_goals rfl

end Go.Vm

/- Why LookTells answers true. -/
set_option linter.unusedVariables false
set_option linter.unusedSimpArgs false
namespace Go.Vm
open Go Go.RowKit

/-! ### LookTells -/
theorem tells_true (c : Config) (a : Acc) (o : Op) (ha : a.txs.length ≤ 1048576) (ho : o.data.size ≤ 1048576) : F_law15_LookTells c a o = some true := by
  have hl := w_law15_live_a
  have hT : Tiny a.txs := by simp only [Tiny]; omega
  have hS : Short (L o.data) := by simp only [Short]; rw [L_len]; omega
  have hs := p_r05_Small a hT.short
  cases h1 : sFew a.txs 30 with
  | false => exact w_law15_LookTells_a c a o (hs.trans (by rw [h1])) hl
  | true =>
    rw [h1] at hs
    by_cases h2 : (500 : Int) < o.data.size
    · exact w_law15_LookTells_b c a o hs h2 hl
    · have hd : sDropP a o.nonce = sLook c a 1 o.nonce (L o.data) := by simp [sLook]
      refine w_law15_LookTells_c c a o hs h2 _ _ _ _ (p_look_Look c a o hT hS) (p_r15_Look c a o hT hS) (p_look_Whose o hS) (p_r15_Whose o hS) (sLook_same _ _ _ _ _ hT) (p_look_Drop a _ hT.short) (p_r15_Drop a _ hT.short) ?_ (p_look_Full _) (p_r15_Full _) (sLook_full _ _ _ _ _ hT) hl
      rw [hd]
      exact sLook_same _ _ _ _ _ hT

end Go.Vm

/- LookTells holds of every input of bulk at most 1048576: the row. -/
set_option linter.unusedVariables false
set_option linter.unusedSimpArgs false
namespace Go.Proofs.Ytmdccbecmilljaa.lookTells
open Go Go.ChangeShapes Go.WideShapes Go.ChangeAt Go.RowKit Go.Vm

theorem own : ownKnob Try.prog.godebug = none := by kernel_rfl

theorem walk (c : Vm.Config) (a : Vm.Acc) (o : Vm.Op) (ha : a.txs.length ≤ 1048576) (ho : o.data.size ≤ 1048576) (W : World) (v0 v1 v2 : Value)
    (h0 : DAR (cellsF W) ((eT ceConfig).enc c) v0) (h1 : DAR (cellsF W) ((eT ceAcc).enc a) v1) (h2 : DAR (cellsF W) ((eT ceOp).enc o) v2) :
    Calls Try.prog 3 #[v0, v1, v2] W fun e w' => e = .returned (.bool true) ∧ Below W.heap.size W w' := by
  have hc := cc_law15_LookTells (cellsF W) W [(eT ceConfig).enc c, (eT ceAcc).enc a, (eT ceOp).enc o] [v0, v1, v2] ((res1 rB).enc true) (sat_cells W)
    (All2.cons h0 (All2.cons h1 (All2.cons h2 All2.nil))) (by
      simp only [M_law15_LookTells, con3, eT, ceConfig_d, ceAcc_d, ceOp_d, ceConfig_c, ceAcc_c, ceOp_c, Config.dc, Acc.dc, Op.dc, Option.bind_some, tells_true c a o ha ho]
      rfl)
  refine hc.mono fun e w' hp => ?_
  obtain ⟨v, Φ', he, hb, _, _, _, hv⟩ := hp
  refine ⟨?_, hb⟩
  obtain ⟨vs, rfl, hvs, _⟩ := hv
  obtain ⟨u, vs', rfl, hu, hn⟩ := hvs.cons_left
  obtain rfl := hn.nil_left
  rw [he]
  cases hu with
  | sc => rfl

theorem contract (H : Type) (enc : TypeId × Value → H) (W : World) (base : Nat) (args : Array Value) (ds gs : List (DataW H)) (before : List MemPlace)
    (hval : ∀ (j : Nat) t v, Try.f3.params[j]? = some t → args[j]? = some v → Value.okWide Try.prog W .any base t v)
    (hW : DataW.Whole enc Try.prog Try.f3.params.toList Rows.lookTellsSpec.vars false W args.toList ds gs before) (hk : Rows.uptoSmall H (ds ++ gs) = true) :
    Calls Try.prog 3 args W fun e W' => ∃ v, e = .returned v ∧ Rows.lookTellsSpec.post enc Try.prog Try.f3 false true false false W args v W' := by
  have hW' := hW
  obtain ⟨p, q, hA0, hV, rfl, hfz, hnd⟩ := hW
  have hA : DataW.TrodAll enc Try.prog W 0 (fun _ => true) true Try.f3.params.toList args.toList ds p := hA0
  rw [Try.params3] at hA
  obtain ⟨v0, v1, v2, d0, d1, d2, p0, p1, p2, rfl, rfl, rfl, h0, h1, h2⟩ := trodAll_three hA
  obtain ⟨rfl, rfl⟩ := trodVars_none hV
  have hB : Rows.uptoBulkAll ([d0, d1, d2] ++ ([] : List (DataW H))) ≤ 1048576 := of_decide_eq_true hk
  simp only [List.append_nil, Rows.uptoBulkAll] at hB hW'
  obtain ⟨c, hc⟩ := argConfig h0
  obtain ⟨a, ha, hal⟩ := argAcc (B := 1048576) h1 (by omega)
  obtain ⟨o, ho, hol⟩ := argOp (B := 1048576) h2 (by omega)
  have hlt : ∀ x ∈ p0 ++ p1 ++ p2, x.block < W.heap.size := fun x hx => by simpa using hW'.lt x hx
  refine (walk c a o hal hol W v0 v1 v2 hc ha ho).mono fun e W' ⟨he, hb⟩ => ?_
  subst he
  refine ⟨_, rfl, [d0, d1, d2], [], p0 ++ p1 ++ p2, [], p0 ++ p1 ++ p2, [], by simpa using hW', ?_, ?_, rfl, hb.frame _, fun h => by cases h⟩
  · exact trodAll_cons_mk (shut_bool Try.underlying4 _) trodAll_mk0
  · rw [Try.params3]
    have e : p0 ++ p1 ++ p2 = p0 ++ (p1 ++ p2) := List.append_assoc _ _ _
    rw [e]
    exact trodAll_mk3 (Below.trod (by kernel_rfl) (by kernel_rfl) (of_decide_eq_true (by kernel_rfl)) h0 hb (fun x hx => hlt x (by simp [hx])))
      (Below.trod (by kernel_rfl) (by kernel_rfl) (of_decide_eq_true (by kernel_rfl)) h1 hb (fun x hx => hlt x (by simp [hx])))
      (Below.trod (by kernel_rfl) (by kernel_rfl) (of_decide_eq_true (by kernel_rfl)) h2 hb (fun x hx => hlt x (by simp [hx])))

def wit : Array Value := #[.agg #[.int .i64 0, .int .i64 0, .int .i64 0, .int .i64 0, .int .i64 0, .int .i64 0, .int .i64 0, .int .i64 0], .agg #[.int .i64 0, .int .i64 0, .slice none 0 0], .agg #[.int .i64 0, .int .i64 0, .int .i64 0, .int .i64 0, .string .empty]]

set_option maxRecDepth 100000 in
theorem lifted (os : Os) (started : os.Started) (H : Type) (enc : TypeId × Value → H) (F : Stop.Interp) :
    ReturnsInHanded {} Try.checked os 3 .any ((Rows.OpenSpec.upto Rows.lookTellsSpec).pre6 enc Try.prog Try.f3 Rows.lookTellsUptoRow.domain false) (((Rows.OpenSpec.upto Rows.lookTellsSpec).at F).post enc Try.prog Try.f3 false true false false) := by
  refine returnsInHanded_of_cond (C := Try.checked) (s := Rows.OpenSpec.upto Rows.lookTellsSpec) (k := Rows.uptoSmall) rfl own started (by kernel_rfl) Try.func3
    (OpenSpec.witness (enc := enc) (C := Try.checked) (s := Rows.OpenSpec.upto Rows.lookTellsSpec) (k := Rows.uptoSmall) rfl false ⟨#[], wit, []⟩ 8 (by kernel_rfl) (by kernel_rfl) (by kernel_rfl)
      (x := ([.agg [.lit (.int .i64 0), .lit (.int .i64 0), .lit (.int .i64 0), .lit (.int .i64 0), .lit (.int .i64 0), .lit (.int .i64 0), .lit (.int .i64 0), .lit (.int .i64 0)], .agg [.lit (.int .i64 0), .lit (.int .i64 0), .nil], .agg [.lit (.int .i64 0), .lit (.int .i64 0), .lit (.int .i64 0), .lit (.int .i64 0), .lit (.string [])]], [], [])) (by kernel_rfl) rfl (by kernel_rfl)) ?_
  intro W base args ds gs before hval hW _ hk _
  exact contract H enc W base args ds gs before hval hW hk

theorem proved : Rows.LookTellsUptoSaid :=
  OpenClaim.holds_of_cond 3 Try.f3 rfl rfl rfl rfl rfl rfl rfl ⟨rfl, rfl, rfl, rfl, rfl⟩ rfl rfl rfl rfl rfl (by kernel_rfl) Try.func3 (by kernel_rfl)
    (of_decide_eq_true (by kernel_rfl)) (by unfold Func.isWrapper; first | (rw [if_pos (by decide +kernel)]; kernel_rfl) | (rw [if_neg (by decide +kernel)]; exact ⟨rfl, rfl⟩))
    (fun os started H enc _ F => lifted os started H enc F)
end Go.Proofs.Ytmdccbecmilljaa.lookTells
