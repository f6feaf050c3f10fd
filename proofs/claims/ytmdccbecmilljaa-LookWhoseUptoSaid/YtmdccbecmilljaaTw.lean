/- What Go functions come to, as Lean functions: each with its contract. -/
import Derived.Test.YtmdccbecmilljaaL
import Derived.Test.YtmdccbecmilljaaProg
import Derived.Test.YtmdccbecmilljaaR
import Derived.OpenShut

set_option linter.unusedVariables false
set_option linter.unusedSimpArgs false
namespace Go.Vm
open Go Go.RowKit

/-! ### hopper/hopperlaw15.LookWhose -/
theorem en_law15_LookWhose : Enters Go.Proofs.Try.prog 6 := ⟨_, Go.Proofs.Try.func6, rfl, rfl⟩
def ty_law15_LookWhose : List (Nat × TI) := [(23, { size := 8, bytes := 64, agg := true, zero := [.sc (.int .i64 0), .sc (.int .i64 0), .sc (.int .i64 0), .sc (.int .i64 0), .sc (.int .i64 0), .sc (.int .i64 0), .sc (.int .i64 0), .sc (.int .i64 0)], kind := .struct [(0, 1, false), (1, 1, false), (2, 1, false), (3, 1, false), (4, 1, false), (5, 1, false), (6, 1, false), (7, 1, false)] }), (28, { size := 5, bytes := 48, agg := true, zero := [.sc (.int .i64 0), .sc (.int .i64 0), .sc (.int .i64 0), .sc (.int .i64 0), .sc (.string "".toByteArray)], kind := .struct [(0, 1, false), (1, 1, false), (2, 1, false), (3, 1, false), (4, 1, false)] }), (40, { size := 5, bytes := 48, agg := true, zero := [.sc (.int .i64 0), .sc (.int .i64 0), .sc (.int .i64 0), .sc (.int .i64 0), .sc (.string "".toByteArray)], kind := .struct [(0, 1, false), (1, 1, false), (2, 1, false), (3, 1, false), (4, 1, false)] }), (9, { size := 1, bytes := 16, agg := false, zero := [.sc (.string "".toByteArray)], kind := .str }), (3, { size := 1, bytes := 8, agg := false, zero := [.sc (.int .i64 0)], kind := .int .i64 }), (26, { size := 3, bytes := 40, agg := true, zero := [.sc (.int .i64 0), .sc (.int .i64 0), .sl []], kind := .struct [(0, 1, false), (1, 1, false), (2, 1, false)] }), (38, { size := 15, bytes := 176, agg := true, zero := [.sc (.bool false), .sc (.int .i64 0), .sc (.int .i64 0), .sc (.int .i64 0), .sl [], .sl [], .sc (.int .i64 0), .sc (.int .i64 0), .sc (.int .i64 0), .sc (.int .i64 0), .sc (.int .i64 0), .sc (.int .i64 0), .sc (.string "".toByteArray), .sl [], .sc (.int .i64 0)], kind := .struct [(0, 1, false), (1, 1, false), (2, 3, true), (5, 1, false), (6, 9, true)] }), (4, { size := 1, bytes := 1, agg := false, zero := [.sc (.bool false)], kind := .bool }), (36, { size := 9, bytes := 96, agg := true, zero := [.sc (.int .i64 0), .sc (.int .i64 0), .sc (.int .i64 0), .sc (.int .i64 0), .sc (.int .i64 0), .sc (.int .i64 0), .sc (.string "".toByteArray), .sl [], .sc (.int .i64 0)], kind := .struct [(0, 1, false), (1, 6, true), (7, 1, false), (8, 1, false)] }), (32, { size := 1, bytes := 8, agg := false, zero := [.sc (.int .i64 0)], kind := .int .i64 }), (31, { size := 1, bytes := 24, agg := false, zero := [.sl []], kind := .slice 65 }), (65, { size := 8, bytes := 72, agg := true, zero := [.sc (.int .i64 0), .sc (.int .i64 0), .sc (.int .i64 0), .sc (.int .i64 0), .sc (.int .i64 0), .sc (.int .i64 0), .sc (.string "".toByteArray), .sc (.int .i64 0)], kind := .struct [(0, 1, false), (1, 6, true), (7, 1, false)] })]
noncomputable def C_law15_LookWhose : Cfg := mkC ty_law15_LookWhose [] [(11, M_look_Whose), (8, M_law15_live), (9, M_look_Look)] [11, 8] [] [] [] []
theorem E_law15_LookWhose : Env1 Go.Proofs.Try.prog C_law15_LookWhose := mkC_ok (by kernel_rfl) (⟨⟨en_look_Whose, cc_look_Whose⟩, ⟨⟨en_law15_live, cc_law15_live⟩, ⟨⟨en_look_Look, cc_look_Look⟩, trivial⟩⟩⟩) (by kernel_rfl)
theorem C_law15_LookWhose_ty : (C_law15_LookWhose).ty = ty_law15_LookWhose := rfl
theorem C_law15_LookWhose_eqs : (C_law15_LookWhose).eqs = [] := rfl
theorem C_law15_LookWhose_call : (C_law15_LookWhose).call = fun f => (([(11, M_look_Whose), (8, M_law15_live), (9, M_look_Look)] : List (Nat × (List DA → Option (List RV)))).lookup f).getD fun _ => none := rfl
theorem C_law15_LookWhose_calls : (C_law15_LookWhose).calls = [11, 8, 9] := rfl
theorem C_law15_LookWhose_scal : (C_law15_LookWhose).scal = [11, 8] := rfl
theorem C_law15_LookWhose_owns : (C_law15_LookWhose).owns = [] := rfl
theorem C_law15_LookWhose_vars : (C_law15_LookWhose).vars = [] := rfl
theorem C_law15_LookWhose_ores : (C_law15_LookWhose).ores = [] := rfl
theorem C_law15_LookWhose_flags : (C_law15_LookWhose).flags = [] := rfl
theorem C_law15_LookWhose_pins : (C_law15_LookWhose).pins = [] := rfl
theorem C_law15_LookWhose_inls : (C_law15_LookWhose).inls = [] := rfl
def T_law15_LookWhose : List (Nat × LoopA) := []
noncomputable def F_law15_LookWhose : Config → Op → Option (Bool) := fun x0 x1 => Wfn C_law15_LookWhose T_law15_LookWhose [] Go.Proofs.Try.f6 (res1 rB) [(eT ceConfig).enc x0, (eT ceOp).enc x1]
noncomputable def M_law15_LookWhose : List DA → Option (List RV) := con2 (eT ceConfig) (eT ceOp) (fun x0 x1 => (F_law15_LookWhose x0 x1).map (res1 rB).enc)
set_option maxRecDepth 100000 in
theorem cc_law15_LookWhose : CallC Go.Proofs.Try.prog 6 M_law15_LookWhose := cc2 E_law15_LookWhose Go.Proofs.Try.func6 rfl rfl (T := T_law15_LookWhose) (G := []) (r := (res1 rB)) fun x0 x1 => by unfold F_law15_LookWhose; exact Wfn_eq rfl
set_option maxHeartbeats 20000000 in
set_option maxRecDepth 100000 in
theorem w_law15_LookWhose_a (x0 : Config) (x1 : Op) (w : Int × Bool) (hw : F_look_Whose x1 = some w) (hd : (500 : Int) < x1.data.size) (hl : F_law15_live = some true) : F_law15_LookWhose x0 x1 = some true := by
    unfold F_law15_LookWhose Wfn
    simp only [Go.Proofs.Try.f6]
    unfold Wf
    simp (maxSteps := 10000000) (implicitDefEqProofs := false) [-evOps, -evOne, -evOp, -evIndexAddr, -evIndex, -evPick, -binV, -evLoad, -evStore, -loadC, -callV, -nilC, -storeC, -toDVs, -toDAs, -resRs, List.lookup, List.replicate, List.range_succ, ty_law15_LookWhose, C_law15_LookWhose_ty, C_law15_LookWhose_eqs, C_law15_LookWhose_call, C_law15_LookWhose_calls, C_law15_LookWhose_scal, C_law15_LookWhose_owns, C_law15_LookWhose_vars, C_law15_LookWhose_ores, C_law15_LookWhose_flags, C_law15_LookWhose_pins, C_law15_LookWhose_inls, T_law15_LookWhose, Go.Proofs.Try.f6, M_look_Whose, M_law15_live, M_look_Look, iC, uC, bC, sC, Acc.c, Config.c, Event.c, Op.c, Plan.c, Result.c, Tx.c, hw, hd, hl]
    all_goals rfl
set_option maxHeartbeats 20000000 in
set_option maxRecDepth 100000 in
theorem w_law15_LookWhose_b (x0 : Config) (x1 : Op) (w : Int × Bool) (hw : F_look_Whose x1 = some w) (hd : ¬ (500 : Int) < x1.data.size) (h1 : w.2 = true) (h2 : 0 ≤ w.1) (h3 : w.1 ≤ 255) (hl : F_law15_live = some true) : F_law15_LookWhose x0 x1 = some true := by
    unfold F_law15_LookWhose Wfn
    simp only [Go.Proofs.Try.f6]
    unfold Wf
    simp (maxSteps := 10000000) (implicitDefEqProofs := false) [-evOps, -evOne, -evOp, -evIndexAddr, -evIndex, -evPick, -binV, -evLoad, -evStore, -loadC, -callV, -nilC, -storeC, -toDVs, -toDAs, -resRs, List.lookup, List.replicate, List.range_succ, ty_law15_LookWhose, C_law15_LookWhose_ty, C_law15_LookWhose_eqs, C_law15_LookWhose_call, C_law15_LookWhose_calls, C_law15_LookWhose_scal, C_law15_LookWhose_owns, C_law15_LookWhose_vars, C_law15_LookWhose_ores, C_law15_LookWhose_flags, C_law15_LookWhose_pins, C_law15_LookWhose_inls, T_law15_LookWhose, Go.Proofs.Try.f6, M_look_Whose, M_law15_live, M_look_Look, iC, uC, bC, sC, Acc.c, Config.c, Event.c, Op.c, Plan.c, Result.c, Tx.c, hw, hd, h1, h2, h3, hl]
    all_goals rfl
set_option maxHeartbeats 20000000 in
set_option maxRecDepth 100000 in
theorem w_law15_LookWhose_c (x0 : Config) (x1 : Op) (w : Int × Bool) (hw : F_look_Whose x1 = some w) (hd : ¬ (500 : Int) < x1.data.size) (h1 : w.2 = false) (h2 : w.1 = 0) (p : Plan) (h3 : F_look_Look x0 { sender := -1, base := 0, txs := [] } x1 = some p) (h4 : p.changes = false) (h5 : ¬ p.result.err = 0) (h6 : p.events.length = 0) (hl : F_law15_live = some true) : F_law15_LookWhose x0 x1 = some true := by
    unfold F_law15_LookWhose Wfn
    simp only [Go.Proofs.Try.f6]
    unfold Wf
    simp (maxSteps := 10000000) (implicitDefEqProofs := false) [-evOps, -evOne, -evOp, -evIndexAddr, -evIndex, -evPick, -binV, -evLoad, -evStore, -loadC, -callV, -nilC, -storeC, -toDVs, -toDAs, -resRs, List.lookup, List.replicate, List.range_succ, ty_law15_LookWhose, C_law15_LookWhose_ty, C_law15_LookWhose_eqs, C_law15_LookWhose_call, C_law15_LookWhose_calls, C_law15_LookWhose_scal, C_law15_LookWhose_owns, C_law15_LookWhose_vars, C_law15_LookWhose_ores, C_law15_LookWhose_flags, C_law15_LookWhose_pins, C_law15_LookWhose_inls, T_law15_LookWhose, Go.Proofs.Try.f6, M_look_Whose, M_law15_live, M_look_Look, iC, uC, bC, sC, Acc.c, Config.c, Event.c, Op.c, Plan.c, Result.c, Tx.c, hw, hd, h1, h2, h3, h4, h5, h6, hl]
    all_goals rfl

end Go.Vm

/- Why LookWhose answers true. -/
set_option linter.unusedVariables false
set_option linter.unusedSimpArgs false
namespace Go.Vm
open Go Go.RowKit

/-! ### LookWhose -/
theorem whose_true (c : Config) (o : Op) (ho : o.data.size ≤ 1048576) : F_law15_LookWhose c o = some true := by
  have hl := w_law15_live_a
  have hS : Short (L o.data) := by simp only [Short]; rw [L_len]; omega
  have hw := p_look_Whose o hS
  by_cases h2 : (500 : Int) < o.data.size
  · exact w_law15_LookWhose_a c o _ hw h2 hl
  cases h3 : (sWhose o.kind o.sender (L o.data)).2 with
  | true =>
    have hr : 0 ≤ (sWhose o.kind o.sender (L o.data)).1 ∧ (sWhose o.kind o.sender (L o.data)).1 ≤ 255 := by
      unfold sWhose at h3 ⊢
      split at h3
      · rename_i hk
        rw [if_pos hk]
        cases hd : sDec (L o.data) with
        | none => simp [decR, zTx]
        | some t =>
          have := sTx_spec (sDec_ok hd)
          simp only [decR]
          omega
      · rename_i hk
        rw [if_neg hk]
        split at h3
        · cases h3
        · rename_i hk2
          rw [if_neg hk2]
          simp only
          omega
    exact w_law15_LookWhose_b c o _ hw h2 h3 hr.1 hr.2 hl
  | false =>
    have hz : (sWhose o.kind o.sender (L o.data)).1 = 0 := by
      unfold sWhose at h3 ⊢
      split at h3
      · rename_i hk
        rw [if_pos hk]
        cases hd : sDec (L o.data) with
        | none => simp [decR, zTx]
        | some t => rw [hd] at h3; simp [decR] at h3
      · rename_i hk
        rw [if_neg hk]
        split at h3
        · rename_i hk2; rw [if_pos hk2]
        · cases h3
    have hp : ∃ e, e ≠ 0 ∧ sLook c ⟨-1, 0, []⟩ o.kind o.nonce (L o.data) = wrong e := by
      unfold sLook
      split
      · rename_i hk
        refine ⟨2, by decide, ?_⟩
        unfold sWhose at h3
        rw [if_pos hk] at h3
        unfold sAdd
        cases hd : sDec (L o.data) with
        | none => rfl
        | some t => rw [hd] at h3; simp [decR] at h3
      · split
        · exact ⟨7, by decide, by simp [sDropP, sFind]⟩
        · split
          · exact ⟨1, by decide, by simp [sAdvP]⟩
          · split
            · exact ⟨7, by decide, by simp [sGet, sFind]⟩
            · exact ⟨1, by decide, rfl⟩
    obtain ⟨e, he, hp⟩ := hp
    have hL := p_look_Look c ⟨-1, 0, []⟩ o (by simp) hS
    rw [hp] at hL
    exact w_law15_LookWhose_c c o _ hw h2 h3 hz _ hL rfl he rfl hl

end Go.Vm

/- LookWhose returns true for every input of bulk at most 1048576, and leaves what it is given as it was. Conditions: none but that bulk. -/
set_option linter.unusedVariables false
set_option linter.unusedSimpArgs false
namespace Go.Proofs.Ytmdccbecmilljaa.lookWhose
open Go Go.ChangeShapes Go.WideShapes Go.ChangeAt Go.RowKit Go.Vm

theorem own : ownKnob Try.prog.godebug = none := by kernel_rfl

theorem walk (x0 : Vm.Config) (x1 : Vm.Op) (b1 : x1.data.size ≤ 1048576) (W : World) (v0 v1 : Value)
    (h0 : DAR (cellsF W) ((eT ceConfig).enc x0) v0) (h1 : DAR (cellsF W) ((eT ceOp).enc x1) v1) :
    Calls Try.prog 6 #[v0, v1] W fun e w' => e = .returned (.bool true) ∧ Below W.heap.size W w' := by
  have hc := cc_law15_LookWhose (cellsF W) W [(eT ceConfig).enc x0, (eT ceOp).enc x1] [v0, v1] ((res1 rB).enc true) (sat_cells W)
    (All2.cons h0 (All2.cons h1 All2.nil)) (by
      simp only [M_law15_LookWhose, con2, eT, ceConfig_d, ceConfig_c, Config.dc, ceOp_d, ceOp_c, Op.dc, Option.bind_some, whose_true x0 x1 b1]
      rfl)
  refine hc.mono fun e w' hp => ?_
  obtain ⟨v, Φ', he, hb, _, _, _, hv⟩ := hp
  refine ⟨?_, hb⟩
  obtain ⟨vs, rfl, hvs, _⟩ := hv
  obtain ⟨u, vs', rfl, hu, hn⟩ := hvs.cons_left
  obtain rfl := hn.nil_left
  rw [he]
  cases hu with
  | sc => rfl

theorem contract (H : Type) (enc : TypeId × Value → H) (W : World) (base : Nat) (args : Array Value) (ds gs : List (DataW H)) (before : List MemPlace)
    (hval : ∀ (j : Nat) t v, Try.f6.params[j]? = some t → args[j]? = some v → Value.okWide Try.prog W .any base t v)
    (hW : DataW.Whole enc Try.prog Try.f6.params.toList Rows.lookWhoseSpec.vars false W args.toList ds gs before) (hk : Rows.uptoSmall H (ds ++ gs) = true) :
    Calls Try.prog 6 args W fun e W' => ∃ v, e = .returned v ∧ Rows.lookWhoseSpec.post enc Try.prog Try.f6 false true false false W args v W' := by
  have hW' := hW
  obtain ⟨p, q, hA0, hV, rfl, hfz, hnd⟩ := hW
  have hA : DataW.TrodAll enc Try.prog W 0 (fun _ => true) true Try.f6.params.toList args.toList ds p := hA0
  rw [Try.params6] at hA
  obtain ⟨v0, v1, d0, d1, p0, p1, rfl, rfl, rfl, h0, h1⟩ := trodAll_two hA
  obtain ⟨rfl, rfl⟩ := trodVars_none hV
  have hB : Rows.uptoBulkAll ([d0, d1] ++ ([] : List (DataW H))) ≤ 1048576 := of_decide_eq_true hk
  simp only [List.append_nil, Rows.uptoBulkAll] at hB hW'
  obtain ⟨x0, hx0⟩ := argConfig h0
  obtain ⟨x1, hx1, b1⟩ := argOp (B := 1048576) h1 (by omega)
  have hlt : ∀ x ∈ p0 ++ p1, x.block < W.heap.size := fun x hx => by simpa using hW'.lt x hx
  refine (walk x0 x1 b1 W v0 v1 hx0 hx1).mono fun e W' ⟨he, hb⟩ => ?_
  subst he
  refine ⟨_, rfl, [d0, d1], [], p0 ++ p1, [], p0 ++ p1, [], by simpa using hW', ?_, ?_, rfl, hb.frame _, fun h => by cases h⟩
  · exact trodAll_cons_mk (shut_bool Try.underlying4 _) trodAll_mk0
  · rw [Try.params6]
    exact trodAll_mk2 (Below.trod (by kernel_rfl) (by kernel_rfl) (of_decide_eq_true (by kernel_rfl)) h0 hb (fun x hx => hlt x (by simp [hx])))
      (Below.trod (by kernel_rfl) (by kernel_rfl) (of_decide_eq_true (by kernel_rfl)) h1 hb (fun x hx => hlt x (by simp [hx])))

def wit : Array Value := #[.agg #[.int .i64 0, .int .i64 0, .int .i64 0, .int .i64 0, .int .i64 0, .int .i64 0, .int .i64 0, .int .i64 0], .agg #[.int .i64 0, .int .i64 0, .int .i64 0, .int .i64 0, .string .empty]]

set_option maxRecDepth 100000 in
theorem lifted (os : Os) (started : os.Started) (H : Type) (enc : TypeId × Value → H) (F : Stop.Interp) :
    ReturnsInHanded {} Try.checked os 6 .any ((Rows.OpenSpec.upto Rows.lookWhoseSpec).pre6 enc Try.prog Try.f6 Rows.lookWhoseUptoRow.domain false) (((Rows.OpenSpec.upto Rows.lookWhoseSpec).at F).post enc Try.prog Try.f6 false true false false) := by
  refine returnsInHanded_of_cond (C := Try.checked) (s := Rows.OpenSpec.upto Rows.lookWhoseSpec) (k := Rows.uptoSmall) rfl own started (by kernel_rfl) Try.func6
    (OpenSpec.witness (enc := enc) (C := Try.checked) (s := Rows.OpenSpec.upto Rows.lookWhoseSpec) (k := Rows.uptoSmall) rfl false ⟨#[], wit, []⟩ 8 (by kernel_rfl) (by kernel_rfl) (by kernel_rfl)
      (x := ([.agg [.lit (.int .i64 0), .lit (.int .i64 0), .lit (.int .i64 0), .lit (.int .i64 0), .lit (.int .i64 0), .lit (.int .i64 0), .lit (.int .i64 0), .lit (.int .i64 0)], .agg [.lit (.int .i64 0), .lit (.int .i64 0), .lit (.int .i64 0), .lit (.int .i64 0), .lit (.string [])]], [], [])) (by kernel_rfl) rfl (by kernel_rfl)) ?_
  intro W base args ds gs before hval hW _ hk _
  exact contract H enc W base args ds gs before hval hW hk

theorem proved : Rows.LookWhoseUptoSaid :=
  OpenClaim.holds_of_cond 6 Try.f6 rfl rfl rfl rfl rfl rfl rfl ⟨rfl, rfl, rfl, rfl, rfl⟩ rfl rfl rfl rfl rfl (by kernel_rfl) Try.func6 (by kernel_rfl)
    (of_decide_eq_true (by kernel_rfl)) (by unfold Func.isWrapper; first | (rw [if_pos (by decide +kernel)]; kernel_rfl) | (rw [if_neg (by decide +kernel)]; exact ⟨rfl, rfl⟩))
    (fun os started H enc _ F => lifted os started H enc F)
end Go.Proofs.Ytmdccbecmilljaa.lookWhose
