/- What Go functions come to, as Lean functions: each with its contract. -/
import Derived.Test.YtmdccbecmilljaaP
import Derived.Test.YtmdccbecmilljaaProg
import Derived.Test.YtmdccbecmilljaaWb

set_option linter.unusedVariables false
set_option linter.unusedSimpArgs false
namespace Go.Vm
open Go Go.RowKit

/-! ### hopper/hopperlaw15.live -/
theorem en_law15_live : Enters Go.Proofs.Try.prog 8 := ⟨_, Go.Proofs.Try.func8, rfl, rfl⟩
def ty_law15_live : List (Nat × TI) := [(34, { size := 6, bytes := 56, agg := true, zero := [.sc (.int .i64 0), .sc (.int .i64 0), .sc (.int .i64 0), .sc (.int .i64 0), .sc (.int .i64 0), .sc (.string "".toByteArray)], kind := .struct [(0, 1, false), (1, 1, false), (2, 1, false), (3, 1, false), (4, 1, false), (5, 1, false)] }), (26, { size := 3, bytes := 40, agg := true, zero := [.sc (.int .i64 0), .sc (.int .i64 0), .sl []], kind := .struct [(0, 1, false), (1, 1, false), (2, 1, false)] }), (23, { size := 8, bytes := 64, agg := true, zero := [.sc (.int .i64 0), .sc (.int .i64 0), .sc (.int .i64 0), .sc (.int .i64 0), .sc (.int .i64 0), .sc (.int .i64 0), .sc (.int .i64 0), .sc (.int .i64 0)], kind := .struct [(0, 1, false), (1, 1, false), (2, 1, false), (3, 1, false), (4, 1, false), (5, 1, false), (6, 1, false), (7, 1, false)] }), (40, { size := 5, bytes := 48, agg := true, zero := [.sc (.int .i64 0), .sc (.int .i64 0), .sc (.int .i64 0), .sc (.int .i64 0), .sc (.string "".toByteArray)], kind := .struct [(0, 1, false), (1, 1, false), (2, 1, false), (3, 1, false), (4, 1, false)] }), (38, { size := 15, bytes := 176, agg := true, zero := [.sc (.bool false), .sc (.int .i64 0), .sc (.int .i64 0), .sc (.int .i64 0), .sl [], .sl [], .sc (.int .i64 0), .sc (.int .i64 0), .sc (.int .i64 0), .sc (.int .i64 0), .sc (.int .i64 0), .sc (.int .i64 0), .sc (.string "".toByteArray), .sl [], .sc (.int .i64 0)], kind := .struct [(0, 1, false), (1, 1, false), (2, 3, true), (5, 1, false), (6, 9, true)] }), (31, { size := 1, bytes := 24, agg := false, zero := [.sl []], kind := .slice 65 }), (3, { size := 1, bytes := 8, agg := false, zero := [.sc (.int .i64 0)], kind := .int .i64 }), (24, { size := 1, bytes := 24, agg := false, zero := [.sl []], kind := .slice 34 }), (4, { size := 1, bytes := 1, agg := false, zero := [.sc (.bool false)], kind := .bool }), (65, { size := 8, bytes := 72, agg := true, zero := [.sc (.int .i64 0), .sc (.int .i64 0), .sc (.int .i64 0), .sc (.int .i64 0), .sc (.int .i64 0), .sc (.int .i64 0), .sc (.string "".toByteArray), .sc (.int .i64 0)], kind := .struct [(0, 1, false), (1, 6, true), (7, 1, false)] }), (36, { size := 9, bytes := 96, agg := true, zero := [.sc (.int .i64 0), .sc (.int .i64 0), .sc (.int .i64 0), .sc (.int .i64 0), .sc (.int .i64 0), .sc (.int .i64 0), .sc (.string "".toByteArray), .sl [], .sc (.int .i64 0)], kind := .struct [(0, 1, false), (1, 6, true), (7, 1, false), (8, 1, false)] }), (32, { size := 1, bytes := 8, agg := false, zero := [.sc (.int .i64 0)], kind := .int .i64 })]
noncomputable def C_law15_live : Cfg := mkC ty_law15_live [(34, [.i .i64, .i .i64, .i .i64, .i .i64, .i .i64, .s])] [(24, M_r04_Encode), (9, M_look_Look), (11, M_look_Whose), (18, M_look_Full), (15, M_look_Drop)] [24, 11] [] [] [] []
theorem E_law15_live : Env1 Go.Proofs.Try.prog C_law15_live := mkC_ok (by kernel_rfl) (⟨⟨en_r04_Encode, cc_r04_Encode⟩, ⟨⟨en_look_Look, cc_look_Look⟩, ⟨⟨en_look_Whose, cc_look_Whose⟩, ⟨⟨en_look_Full, cc_look_Full⟩, ⟨⟨en_look_Drop, cc_look_Drop⟩, trivial⟩⟩⟩⟩⟩) (by kernel_rfl)
theorem C_law15_live_ty : (C_law15_live).ty = ty_law15_live := rfl
theorem C_law15_live_eqs : (C_law15_live).eqs = [(34, [.i .i64, .i .i64, .i .i64, .i .i64, .i .i64, .s])] := rfl
theorem C_law15_live_call : (C_law15_live).call = fun f => (([(24, M_r04_Encode), (9, M_look_Look), (11, M_look_Whose), (18, M_look_Full), (15, M_look_Drop)] : List (Nat × (List DA → Option (List RV)))).lookup f).getD fun _ => none := rfl
theorem C_law15_live_calls : (C_law15_live).calls = [24, 9, 11, 18, 15] := rfl
theorem C_law15_live_scal : (C_law15_live).scal = [24, 11] := rfl
theorem C_law15_live_owns : (C_law15_live).owns = [] := rfl
theorem C_law15_live_vars : (C_law15_live).vars = [] := rfl
theorem C_law15_live_ores : (C_law15_live).ores = [] := rfl
theorem C_law15_live_flags : (C_law15_live).flags = [] := rfl
theorem C_law15_live_pins : (C_law15_live).pins = [] := rfl
theorem C_law15_live_inls : (C_law15_live).inls = [] := rfl
def T_law15_live : List (Nat × LoopA) := []
noncomputable def F_law15_live : Option (Bool) := Wfn C_law15_live T_law15_live [] Go.Proofs.Try.f8 (res1 rB) []
noncomputable def M_law15_live : List DA → Option (List RV) := con0  ((F_law15_live).map (res1 rB).enc)
theorem cc_law15_live : CallC Go.Proofs.Try.prog 8 M_law15_live := cc0 E_law15_live Go.Proofs.Try.func8 rfl rfl (T := T_law15_live) (G := []) (r := (res1 rB)) <| by unfold F_law15_live; exact Wfn_eq rfl
set_option maxHeartbeats 20000000 in
set_option maxRecDepth 100000 in
theorem w_law15_live_a  : F_law15_live  = some true := by
    unfold F_law15_live Wfn
    simp only [Go.Proofs.Try.f8]
    unfold Wf
    simp (maxSteps := 10000000) (implicitDefEqProofs := false) [-evOps, -evOne, -evOp, -evIndexAddr, -evIndex, -evPick, -binV, -evLoad, -evStore, -loadC, -callV, -nilC, -storeC, -toDVs, -toDAs, -resRs, List.lookup, List.replicate, List.range_succ, ty_law15_live, C_law15_live_ty, C_law15_live_eqs, C_law15_live_call, C_law15_live_calls, C_law15_live_scal, C_law15_live_owns, C_law15_live_vars, C_law15_live_ores, C_law15_live_flags, C_law15_live_pins, C_law15_live_inls, T_law15_live, Go.Proofs.Try.f8, M_r04_Encode, M_look_Look, M_look_Whose, M_look_Full, M_look_Drop, iC, uC, bC, sC, Acc.c, Config.c, Event.c, Op.c, Plan.c, Result.c, Tx.c, live1, live2, live3, live4, live5, live6, live7, live8, live9', live10', live11, live12, live_p1, live_p2, live_p3, live_p4, live_p5, live_q2, live_q3, live_q4, live_q5, live_r1, live_r2, live_u1, live_u2, live_u3, live_v1, live_v2, live_w1, live_w7, live_f6, live_f0]
    all_goals rfl

end Go.Vm

/- What two plans have in common; how long plans are. -/
set_option linter.unusedVariables false
set_option linter.unusedSimpArgs false
namespace Go.Vm
open Go Go.RowKit

/-! ### the same -/
theorem p_r13_Events (l : List Event) (hl : Short l) : F_r13_Events l l = some true := by
  simp only [F_r13_Events, pk_r13_Events, if_true]
  refine run_bind (γ := Unit) l (fun i _ => ⟨l, l, i⟩) (fun i _ t => some (.inl ())) (fun _ => some (.inl ⟨l, l, l.length⟩)) () rfl ?_ ?_ ?_
  · intro i c t ht
    obtain ⟨h1, h2, h3, h4⟩ := at_ ht hl
    simp only [h1, h2, h3, h4, ht, if_true, Option.bind_some, not_true_eq_false, or_self, if_false]
  · intro c; simp
  · have key : ∀ (k : List Event) (i : Nat), (loopL (γ := Unit) (fun i _ t => some (.inl ())) (fun _ => some (.inl (⟨l, l, l.length⟩ : L_r13_Events_0))) i () k).bind (selim (fun s => some true) fun n => some n) = some true := by
      intro k
      induction k with
      | nil => intro i; simp [loopL, selim]
      | cons t k ih => intro i; exact ih (i + 1)
    exact key l 0

theorem p_r15_Same (p : Plan) (h1 : Short p.after.txs) (h2 : Short p.events) (h3 : Short p.result.txs) : F_r15_Same p p = some true := by
  simp only [F_r15_Same, pk_r15_Same, if_true, p_r05_Same p.after h1, p_r13_Events p.events h2, Option.bind_some]
  exact p_r13_Same _ h3

def sFull (p : Plan) : Result := if p.changes = true ∧ 0 < p.delta then ⟨6, zTx, [], 0⟩ else p.result
theorem p_look_Full (p : Plan) : F_look_Full p = some (sFull p) := by
  simp only [F_look_Full, pk_look_Full, sFull]
  by_cases h1 : p.changes = true <;> by_cases h2 : 0 < p.delta <;> simp [h1, h2, zTx]
theorem p_r15_Full (p : Plan) : F_r15_Full p = some (sFull p) := by
  simp only [F_r15_Full, pk_r15_Full, sFull]
  by_cases h1 : p.changes = true <;> by_cases h2 : 0 < p.delta <;> simp [h1, h2, zTx]

/-! ### how long plans are -/
def PS (m : Nat) (p : Plan) : Prop := p.after.txs.length ≤ m ∧ p.events.length ≤ m ∧ p.result.txs.length ≤ m
theorem PS_wrong (m : Nat) (e : Int) : PS m (wrong e) := by simp [PS, wrong, zAcc]
theorem sLook_len (c : Config) (a : Acc) (k n : Int) (l : List UInt8) : PS (a.txs.length + 1) (sLook c a k n l) := by
  unfold sLook
  split
  · unfold sAdd
    split
    · exact PS_wrong _ _
    · rename_i t _
      split
      · exact ⟨sPutL_len a.txs t, by simp [sTo], by simp [sTo, zRes]⟩
      · exact PS_wrong _ _
  · split
    · unfold sDropP
      split
      · exact PS_wrong _ _
      · exact ⟨Nat.le_succ_of_le (sDrop_len a n), by simp [sTo], by simp [sTo]⟩
    · split
      · unfold sAdvP
        split
        · exact PS_wrong _ _
        · split
          · have h := sAdv_len a n
            exact ⟨Nat.le_succ_of_le h.1, by simp [sTo]; omega, by simp [sTo]; omega⟩
          · exact PS_wrong _ _
      · split
        · unfold sGet
          split
          · exact PS_wrong _ _
          · simp [PS, zAcc]
        · exact PS_wrong _ _

theorem sLook_same (c : Config) (a : Acc) (k n : Int) (l : List UInt8) (ha : Tiny a.txs) : F_r15_Same (sLook c a k n l) (sLook c a k n l) = some true := by
  obtain ⟨h1, h2, h3⟩ := sLook_len c a k n l
  simp only [Tiny] at ha
  exact p_r15_Same _ (by simp only [Short]; omega) (by simp only [Short]; omega) (by simp only [Short]; omega)

theorem sLook_full (c : Config) (a : Acc) (k n : Int) (l : List UInt8) (ha : Tiny a.txs) : F_r13_Same (sFull (sLook c a k n l)) (sFull (sLook c a k n l)) = some true := by
  obtain ⟨h1, h2, h3⟩ := sLook_len c a k n l
  simp only [Tiny] at ha
  refine p_r13_Same _ ?_
  unfold sFull
  split
  · simp
  · simp only [Short]; omega

end Go.Vm
