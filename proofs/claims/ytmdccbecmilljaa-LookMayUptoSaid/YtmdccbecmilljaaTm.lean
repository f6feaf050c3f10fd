/- LookMay returns true for every input of bulk at most 1048576, and leaves what it is given as it was. Conditions: none but that bulk. -/
import Derived.Test.YtmdccbecmilljaaL
import Derived.Test.YtmdccbecmilljaaProg
import Derived.Test.YtmdccbecmilljaaR
import Derived.OpenShut

/- What Go functions come to, as Lean functions: each with its contract. -/
set_option linter.unusedVariables false
set_option linter.unusedSimpArgs false
namespace Go.Vm
open Go Go.RowKit

/-! ### hopper/hopperlaw15.LookMay -/
theorem en_law15_LookMay : Enters Go.Proofs.Try.prog 4 := ⟨_, Go.Proofs.Try.func4, rfl, rfl⟩
def ty_law15_LookMay : List (Nat × TI) := [(23, { size := 8, bytes := 64, agg := true, zero := [.sc (.int .i64 0), .sc (.int .i64 0), .sc (.int .i64 0), .sc (.int .i64 0), .sc (.int .i64 0), .sc (.int .i64 0), .sc (.int .i64 0), .sc (.int .i64 0)], kind := .struct [(0, 1, false), (1, 1, false), (2, 1, false), (3, 1, false), (4, 1, false), (5, 1, false), (6, 1, false), (7, 1, false)] }), (26, { size := 3, bytes := 40, agg := true, zero := [.sc (.int .i64 0), .sc (.int .i64 0), .sl []], kind := .struct [(0, 1, false), (1, 1, false), (2, 1, false)] }), (28, { size := 5, bytes := 48, agg := true, zero := [.sc (.int .i64 0), .sc (.int .i64 0), .sc (.int .i64 0), .sc (.int .i64 0), .sc (.string "".toByteArray)], kind := .struct [(0, 1, false), (1, 1, false), (2, 1, false), (3, 1, false), (4, 1, false)] }), (9, { size := 1, bytes := 16, agg := false, zero := [.sc (.string "".toByteArray)], kind := .str }), (3, { size := 1, bytes := 8, agg := false, zero := [.sc (.int .i64 0)], kind := .int .i64 }), (40, { size := 5, bytes := 48, agg := true, zero := [.sc (.int .i64 0), .sc (.int .i64 0), .sc (.int .i64 0), .sc (.int .i64 0), .sc (.string "".toByteArray)], kind := .struct [(0, 1, false), (1, 1, false), (2, 1, false), (3, 1, false), (4, 1, false)] }), (38, { size := 15, bytes := 176, agg := true, zero := [.sc (.bool false), .sc (.int .i64 0), .sc (.int .i64 0), .sc (.int .i64 0), .sl [], .sl [], .sc (.int .i64 0), .sc (.int .i64 0), .sc (.int .i64 0), .sc (.int .i64 0), .sc (.int .i64 0), .sc (.int .i64 0), .sc (.string "".toByteArray), .sl [], .sc (.int .i64 0)], kind := .struct [(0, 1, false), (1, 1, false), (2, 3, true), (5, 1, false), (6, 9, true)] }), (36, { size := 9, bytes := 96, agg := true, zero := [.sc (.int .i64 0), .sc (.int .i64 0), .sc (.int .i64 0), .sc (.int .i64 0), .sc (.int .i64 0), .sc (.int .i64 0), .sc (.string "".toByteArray), .sl [], .sc (.int .i64 0)], kind := .struct [(0, 1, false), (1, 6, true), (7, 1, false), (8, 1, false)] }), (32, { size := 1, bytes := 8, agg := false, zero := [.sc (.int .i64 0)], kind := .int .i64 }), (4, { size := 1, bytes := 1, agg := false, zero := [.sc (.bool false)], kind := .bool }), (31, { size := 1, bytes := 24, agg := false, zero := [.sl []], kind := .slice 65 }), (65, { size := 8, bytes := 72, agg := true, zero := [.sc (.int .i64 0), .sc (.int .i64 0), .sc (.int .i64 0), .sc (.int .i64 0), .sc (.int .i64 0), .sc (.int .i64 0), .sc (.string "".toByteArray), .sc (.int .i64 0)], kind := .struct [(0, 1, false), (1, 6, true), (7, 1, false)] })]
noncomputable def C_law15_LookMay : Cfg := mkC ty_law15_LookMay [] [(7, M_r05_Small), (20, M_r05_Check), (8, M_law15_live), (9, M_look_Look), (21, M_r05_Same), (22, M_r05_Slots)] [7, 20, 8, 21, 22] [] [] [] [(8, [true, true, true, true, false, true, true, true, true, true, true, true, true, true, true, true, true, true, true, true, true, true, true, true, true, true, true, true, true, true, true, true, true, false, true, true])]
theorem E_law15_LookMay : Env1 Go.Proofs.Try.prog C_law15_LookMay := mkC_ok (by kernel_rfl) (⟨⟨en_r05_Small, cc_r05_Small⟩, ⟨⟨en_r05_Check, cc_r05_Check⟩, ⟨⟨en_law15_live, cc_law15_live⟩, ⟨⟨en_look_Look, cc_look_Look⟩, ⟨⟨en_r05_Same, cc_r05_Same⟩, ⟨⟨en_r05_Slots, cc_r05_Slots⟩, trivial⟩⟩⟩⟩⟩⟩) (by kernel_rfl)
theorem C_law15_LookMay_ty : (C_law15_LookMay).ty = ty_law15_LookMay := rfl
theorem C_law15_LookMay_eqs : (C_law15_LookMay).eqs = [] := rfl
theorem C_law15_LookMay_call : (C_law15_LookMay).call = fun f => (([(7, M_r05_Small), (20, M_r05_Check), (8, M_law15_live), (9, M_look_Look), (21, M_r05_Same), (22, M_r05_Slots)] : List (Nat × (List DA → Option (List RV)))).lookup f).getD fun _ => none := rfl
theorem C_law15_LookMay_calls : (C_law15_LookMay).calls = [7, 20, 8, 9, 21, 22] := rfl
theorem C_law15_LookMay_scal : (C_law15_LookMay).scal = [7, 20, 8, 21, 22] := rfl
theorem C_law15_LookMay_owns : (C_law15_LookMay).owns = [] := rfl
theorem C_law15_LookMay_vars : (C_law15_LookMay).vars = [] := rfl
theorem C_law15_LookMay_ores : (C_law15_LookMay).ores = [] := rfl
theorem C_law15_LookMay_flags : (C_law15_LookMay).flags = [(8, [true, true, true, true, false, true, true, true, true, true, true, true, true, true, true, true, true, true, true, true, true, true, true, true, true, true, true, true, true, true, true, true, true, false, true, true])] := rfl
theorem C_law15_LookMay_pins : (C_law15_LookMay).pins = [] := rfl
theorem C_law15_LookMay_inls : (C_law15_LookMay).inls = [] := rfl
def T_law15_LookMay : List (Nat × LoopA) := []
noncomputable def F_law15_LookMay : Config → Acc → Op → Option (Bool) := fun x0 x1 x2 => Wfn C_law15_LookMay T_law15_LookMay [] Go.Proofs.Try.f4 (res1 rB) [(eT ceConfig).enc x0, (eT ceAcc).enc x1, (eT ceOp).enc x2]
noncomputable def M_law15_LookMay : List DA → Option (List RV) := con3 (eT ceConfig) (eT ceAcc) (eT ceOp) (fun x0 x1 x2 => (F_law15_LookMay x0 x1 x2).map (res1 rB).enc)
set_option maxRecDepth 100000 in
theorem cc_law15_LookMay : CallC Go.Proofs.Try.prog 4 M_law15_LookMay := cc3 E_law15_LookMay Go.Proofs.Try.func4 rfl rfl (T := T_law15_LookMay) (G := []) (r := (res1 rB)) fun x0 x1 x2 => by unfold F_law15_LookMay; exact Wfn_eq rfl
set_option maxHeartbeats 20000000 in
set_option maxRecDepth 100000 in
theorem w_law15_LookMay_a (x0 : Config) (x1 : Acc) (x2 : Op) (hs : F_r05_Small x1 = some false) (hl : F_law15_live = some true) : F_law15_LookMay x0 x1 x2 = some true := by
    unfold F_law15_LookMay Wfn
    simp only [Go.Proofs.Try.f4]
    unfold Wf
    simp (maxSteps := 10000000) (implicitDefEqProofs := false) [-evOps, -evOne, -evOp, -evIndexAddr, -evIndex, -evPick, -binV, -evLoad, -evStore, -loadC, -callV, -nilC, -storeC, -toDVs, -toDAs, -resRs, List.lookup, List.replicate, List.range_succ, ty_law15_LookMay, C_law15_LookMay_ty, C_law15_LookMay_eqs, C_law15_LookMay_call, C_law15_LookMay_calls, C_law15_LookMay_scal, C_law15_LookMay_owns, C_law15_LookMay_vars, C_law15_LookMay_ores, C_law15_LookMay_flags, C_law15_LookMay_pins, C_law15_LookMay_inls, T_law15_LookMay, Go.Proofs.Try.f4, M_r05_Small, M_r05_Check, M_law15_live, M_look_Look, M_r05_Same, M_r05_Slots, iC, uC, bC, sC, Acc.c, Config.c, Event.c, Op.c, Plan.c, Result.c, Tx.c, hs, hl]
    all_goals rfl
set_option maxHeartbeats 20000000 in
set_option maxRecDepth 100000 in
theorem w_law15_LookMay_b (x0 : Config) (x1 : Acc) (x2 : Op) (hs : F_r05_Small x1 = some true) (hd : (500 : Int) < x2.data.size) (hl : F_law15_live = some true) : F_law15_LookMay x0 x1 x2 = some true := by
    unfold F_law15_LookMay Wfn
    simp only [Go.Proofs.Try.f4]
    unfold Wf
    simp (maxSteps := 10000000) (implicitDefEqProofs := false) [-evOps, -evOne, -evOp, -evIndexAddr, -evIndex, -evPick, -binV, -evLoad, -evStore, -loadC, -callV, -nilC, -storeC, -toDVs, -toDAs, -resRs, List.lookup, List.replicate, List.range_succ, ty_law15_LookMay, C_law15_LookMay_ty, C_law15_LookMay_eqs, C_law15_LookMay_call, C_law15_LookMay_calls, C_law15_LookMay_scal, C_law15_LookMay_owns, C_law15_LookMay_vars, C_law15_LookMay_ores, C_law15_LookMay_flags, C_law15_LookMay_pins, C_law15_LookMay_inls, T_law15_LookMay, Go.Proofs.Try.f4, M_r05_Small, M_r05_Check, M_law15_live, M_look_Look, M_r05_Same, M_r05_Slots, iC, uC, bC, sC, Acc.c, Config.c, Event.c, Op.c, Plan.c, Result.c, Tx.c, hs, hd, hl]
    all_goals rfl
set_option maxHeartbeats 20000000 in
set_option maxRecDepth 100000 in
theorem w_law15_LookMay_c (x0 : Config) (x1 : Acc) (x2 : Op) (hs : F_r05_Small x1 = some true) (hd : ¬ (500 : Int) < x2.data.size) (hc : F_r05_Check x1 x0.per = some false) (hl : F_law15_live = some true) : F_law15_LookMay x0 x1 x2 = some true := by
    unfold F_law15_LookMay Wfn
    simp only [Go.Proofs.Try.f4]
    unfold Wf
    simp (maxSteps := 10000000) (implicitDefEqProofs := false) [-evOps, -evOne, -evOp, -evIndexAddr, -evIndex, -evPick, -binV, -evLoad, -evStore, -loadC, -callV, -nilC, -storeC, -toDVs, -toDAs, -resRs, List.lookup, List.replicate, List.range_succ, ty_law15_LookMay, C_law15_LookMay_ty, C_law15_LookMay_eqs, C_law15_LookMay_call, C_law15_LookMay_calls, C_law15_LookMay_scal, C_law15_LookMay_owns, C_law15_LookMay_vars, C_law15_LookMay_ores, C_law15_LookMay_flags, C_law15_LookMay_pins, C_law15_LookMay_inls, T_law15_LookMay, Go.Proofs.Try.f4, M_r05_Small, M_r05_Check, M_law15_live, M_look_Look, M_r05_Same, M_r05_Slots, iC, uC, bC, sC, Acc.c, Config.c, Event.c, Op.c, Plan.c, Result.c, Tx.c, hs, hd, hc, hl]
    all_goals rfl
set_option maxHeartbeats 20000000 in
set_option maxRecDepth 100000 in
theorem w_law15_LookMay_d (x0 : Config) (x1 : Acc) (x2 : Op) (hs : F_r05_Small x1 = some true) (hd : ¬ (500 : Int) < x2.data.size) (hc : F_r05_Check x1 x0.per = some true) (p : Plan) (h1 : F_look_Look x0 x1 x2 = some p) (he : ¬ p.result.err = 0) (h2 : p.changes = false) (h3 : p.delta = 0) (h4 : p.events.length = 0) (h5 : F_r05_Same p.after { sender := 0, base := 0, txs := [] } = some true) (hl : F_law15_live = some true) : F_law15_LookMay x0 x1 x2 = some true := by
    unfold F_law15_LookMay Wfn
    simp only [Go.Proofs.Try.f4]
    unfold Wf
    simp (maxSteps := 10000000) (implicitDefEqProofs := false) [-evOps, -evOne, -evOp, -evIndexAddr, -evIndex, -evPick, -binV, -evLoad, -evStore, -loadC, -callV, -nilC, -storeC, -toDVs, -toDAs, -resRs, List.lookup, List.replicate, List.range_succ, ty_law15_LookMay, C_law15_LookMay_ty, C_law15_LookMay_eqs, C_law15_LookMay_call, C_law15_LookMay_calls, C_law15_LookMay_scal, C_law15_LookMay_owns, C_law15_LookMay_vars, C_law15_LookMay_ores, C_law15_LookMay_flags, C_law15_LookMay_pins, C_law15_LookMay_inls, T_law15_LookMay, Go.Proofs.Try.f4, M_r05_Small, M_r05_Check, M_law15_live, M_look_Look, M_r05_Same, M_r05_Slots, iC, uC, bC, sC, Acc.c, Config.c, Event.c, Op.c, Plan.c, Result.c, Tx.c, hs, hd, hc, h1, he, h2, h3, h4, h5, hl]
    all_goals rfl
set_option maxHeartbeats 20000000 in
set_option maxRecDepth 100000 in
theorem w_law15_LookMay_e (x0 : Config) (x1 : Acc) (x2 : Op) (hs : F_r05_Small x1 = some true) (hd : ¬ (500 : Int) < x2.data.size) (hc : F_r05_Check x1 x0.per = some true) (p : Plan) (h1 : F_look_Look x0 x1 x2 = some p) (he : p.result.err = 0) (h2 : p.changes = false) (h3 : p.delta = 0) (h4 : p.events.length = 0) (hl : F_law15_live = some true) : F_law15_LookMay x0 x1 x2 = some true := by
    unfold F_law15_LookMay Wfn
    simp only [Go.Proofs.Try.f4]
    unfold Wf
    simp (maxSteps := 10000000) (implicitDefEqProofs := false) [-evOps, -evOne, -evOp, -evIndexAddr, -evIndex, -evPick, -binV, -evLoad, -evStore, -loadC, -callV, -nilC, -storeC, -toDVs, -toDAs, -resRs, List.lookup, List.replicate, List.range_succ, ty_law15_LookMay, C_law15_LookMay_ty, C_law15_LookMay_eqs, C_law15_LookMay_call, C_law15_LookMay_calls, C_law15_LookMay_scal, C_law15_LookMay_owns, C_law15_LookMay_vars, C_law15_LookMay_ores, C_law15_LookMay_flags, C_law15_LookMay_pins, C_law15_LookMay_inls, T_law15_LookMay, Go.Proofs.Try.f4, M_r05_Small, M_r05_Check, M_law15_live, M_look_Look, M_r05_Same, M_r05_Slots, iC, uC, bC, sC, Acc.c, Config.c, Event.c, Op.c, Plan.c, Result.c, Tx.c, hs, hd, hc, h1, he, h2, h3, h4, hl]
    all_goals rfl
set_option maxHeartbeats 20000000 in
set_option maxRecDepth 100000 in
theorem w_law15_LookMay_f (x0 : Config) (x1 : Acc) (x2 : Op) (hs : F_r05_Small x1 = some true) (hd : ¬ (500 : Int) < x2.data.size) (hc : F_r05_Check x1 x0.per = some true) (p : Plan) (s1 s2 : Int) (h1 : F_look_Look x0 x1 x2 = some p) (he : p.result.err = 0) (h2 : p.changes = true) (h3 : F_r05_Check { sender := x1.sender, base := p.after.base, txs := p.after.txs } x0.per = some true) (h4 : F_r05_Slots { sender := x1.sender, base := p.after.base, txs := p.after.txs } = some s1) (h5 : F_r05_Slots x1 = some s2) (h6 : IntKind.i64.wrap (s2 + p.delta) = s1) (h7 : p.after.sender = x1.sender) (h8 : x1.base ≤ p.after.base) (hl : F_law15_live = some true) : F_law15_LookMay x0 x1 x2 = some true := by
    unfold F_law15_LookMay Wfn
    simp only [Go.Proofs.Try.f4]
    unfold Wf
    simp (maxSteps := 10000000) (implicitDefEqProofs := false) [-evOps, -evOne, -evOp, -evIndexAddr, -evIndex, -evPick, -binV, -evLoad, -evStore, -loadC, -callV, -nilC, -storeC, -toDVs, -toDAs, -resRs, List.lookup, List.replicate, List.range_succ, ty_law15_LookMay, C_law15_LookMay_ty, C_law15_LookMay_eqs, C_law15_LookMay_call, C_law15_LookMay_calls, C_law15_LookMay_scal, C_law15_LookMay_owns, C_law15_LookMay_vars, C_law15_LookMay_ores, C_law15_LookMay_flags, C_law15_LookMay_pins, C_law15_LookMay_inls, T_law15_LookMay, Go.Proofs.Try.f4, M_r05_Small, M_r05_Check, M_law15_live, M_look_Look, M_r05_Same, M_r05_Slots, iC, uC, bC, sC, Acc.c, Config.c, Event.c, Op.c, Plan.c, Result.c, Tx.c, hs, hd, hc, h1, he, h2, h3, h4, h5, h6, h7, h8, hl]
    all_goals rfl

end Go.Vm

/- Why LookMay answers true. -/
set_option linter.unusedVariables false
set_option linter.unusedSimpArgs false
namespace Go.Vm
open Go Go.RowKit

/-! ### LookMay -/
theorem wrong_err {c : Config} {a : Acc} {k n : Int} {l : List UInt8} (h : ¬ (sLook c a k n l).result.err = 0) : ∃ e, sLook c a k n l = wrong e := by
  unfold sLook at h ⊢
  split
  · rename_i hk
    rw [if_pos hk] at h
    unfold sAdd at h ⊢
    cases hd : sDec l with
    | none => exact ⟨_, rfl⟩
    | some t =>
      rw [hd] at h
      simp only at h ⊢
      split
      · rename_i hp; rw [if_pos hp] at h; exact absurd rfl h
      · exact ⟨_, rfl⟩
  · rename_i hk
    rw [if_neg hk] at h
    split
    · rename_i hk; rw [if_pos hk] at h
      unfold sDropP at h ⊢
      split
      · exact ⟨_, rfl⟩
      · rename_i hp; rw [if_neg hp] at h; exact absurd rfl h
    · rename_i hk; rw [if_neg hk] at h
      split
      · rename_i hk; rw [if_pos hk] at h
        unfold sAdvP at h ⊢
        split
        · exact ⟨_, rfl⟩
        · rename_i hq; rw [if_neg hq] at h
          split
          · rename_i hp; rw [if_pos hp] at h; exact absurd rfl h
          · exact ⟨_, rfl⟩
      · rename_i hk; rw [if_neg hk] at h
        split
        · rename_i hk; rw [if_pos hk] at h
          unfold sGet at h ⊢
          split
          · exact ⟨_, rfl⟩
          · rename_i hp; rw [if_neg hp] at h; exact absurd rfl h
        · exact ⟨_, rfl⟩

/-! what may be stays so -/
theorem chk_mono {s nx nx' : Int} (h : nx' ≤ nx) : ∀ {l : List Tx}, sChk s nx l = true → sChk s nx' l = true
  | [], _ => rfl
  | t :: l, hc => by
    simp only [sChk, Bool.and_eq_true, decide_eq_true_eq] at hc ⊢
    exact ⟨hc.1, hc.2.1, by omega, hc.2.2.2⟩

theorem chk_filter {s : Int} (p : Tx → Bool) : ∀ {l : List Tx} {nx : Int}, sChk s nx l = true → sChk s nx (l.filter p) = true
  | [], _, _ => rfl
  | t :: l, nx, hc => by
    simp only [sChk, Bool.and_eq_true, decide_eq_true_eq] at hc
    by_cases h : p t = true
    · rw [List.filter_cons_of_pos h]
      simp only [sChk, Bool.and_eq_true, decide_eq_true_eq]
      exact ⟨hc.1, hc.2.1, hc.2.2.1, chk_filter p hc.2.2.2⟩
    · rw [List.filter_cons_of_neg h]
      exact chk_mono (by omega) (chk_filter p hc.2.2.2)

theorem chk_ge {s b : Int} : ∀ {l : List Tx} {nx : Int}, sChk s nx l = true → (∀ t ∈ l, b ≤ t.nonce) → sChk s b l = true
  | [], _, _, _ => rfl
  | t :: l, nx, hc, hb => by
    simp only [sChk, Bool.and_eq_true, decide_eq_true_eq] at hc ⊢
    exact ⟨hc.1, hc.2.1, hb t (List.mem_cons_self), hc.2.2.2⟩

theorem chk_rep {s : Int} {t : Tx} (ht : sTx t = true) (hs : t.sender = s) : ∀ {l : List Tx} {nx : Int}, (sFind l t.nonce).2 = true → sChk s nx l = true → sChk s nx (sRep t l) = true
  | [], _, hf, _ => by simp [sFind] at hf
  | x :: l, nx, hf, hc => by
    simp only [sChk, Bool.and_eq_true, decide_eq_true_eq] at hc
    by_cases h : x.nonce = t.nonce
    · simp only [sRep, h, if_true, sChk, Bool.and_eq_true, decide_eq_true_eq]
      rw [← h]
      exact ⟨ht, hs, hc.2.2.1, hc.2.2.2⟩
    · simp only [sRep, h, if_false, sChk, Bool.and_eq_true, decide_eq_true_eq]
      have hf' : (sFind l t.nonce).2 = true := by simpa [sFind, h] using hf
      exact ⟨hc.1, hc.2.1, hc.2.2.1, chk_rep ht hs hf' hc.2.2.2⟩

theorem chk_ins {s : Int} {t : Tx} (ht : sTx t = true) (hs : t.sender = s) : ∀ {l : List Tx} {nx : Int}, (∀ x ∈ l, x.nonce ≠ t.nonce) → nx ≤ t.nonce → sChk s nx l = true → sChk s nx (sIns t l) = true
  | [], nx, _, hn, _ => by
    simp only [sIns, sChk, Bool.and_eq_true, decide_eq_true_eq]
    exact ⟨ht, hs, hn, trivial⟩
  | x :: l, nx, hf, hn, hc => by
    simp only [sChk, Bool.and_eq_true, decide_eq_true_eq] at hc
    have hx := hf x (List.mem_cons_self)
    by_cases h : t.nonce < x.nonce
    · simp only [sIns, h, if_true, sChk, Bool.and_eq_true, decide_eq_true_eq]
      exact ⟨ht, hs, hn, hc.1, hc.2.1, by omega, hc.2.2.2⟩
    · simp only [sIns, h, if_false, sChk, Bool.and_eq_true, decide_eq_true_eq]
      exact ⟨hc.1, hc.2.1, hc.2.2.1, chk_ins ht hs (fun y hy => hf y (List.mem_cons_of_mem _ hy)) (by omega) hc.2.2.2⟩

theorem rep_len {t : Tx} : ∀ {l : List Tx}, (sFind l t.nonce).2 = true → (sRep t l).length = l.length
  | [], hf => by simp [sFind] at hf
  | x :: l, hf => by
    by_cases h : x.nonce = t.nonce
    · simp [sRep, h]
    · have hf' : (sFind l t.nonce).2 = true := by simpa [sFind, h] using hf
      simp [sRep, h, rep_len hf']
theorem ins_len (t : Tx) : ∀ (l : List Tx), (sIns t l).length = l.length + 1
  | [] => rfl
  | x :: l => by
    by_cases h : t.nonce < x.nonce
    · simp [sIns, h]
    · simp [sIns, h, ins_len t l]

theorem sAcc_spec {a : Acc} {per : Int} : sAcc a per = true ↔ (0 ≤ a.sender ∧ a.sender ≤ 255 ∧ 0 ≤ a.base ∧ a.base ≤ 4294967295 ∧ 1 ≤ per ∧ per ≤ 16 ∧ (a.txs.length : Int) ≤ per) ∧ sChk a.sender a.base a.txs = true := by
  unfold sAcc; rw [Bool.and_eq_true, decide_eq_true_eq]

theorem place_ok {a : Acc} {t : Tx} {per bump : Int} (h : (sPlace a t per bump).2 = 0) : sAcc a per = true ∧ sTx t = true ∧ t.sender = a.sender ∧ a.base ≤ t.nonce ∧ ((sFind a.txs t.nonce).2 = true ∨ (a.txs.length : Int) < per) := by
  unfold sPlace at h
  split at h
  · simp at h
  rename_i h1
  split at h
  · simp at h
  rename_i h2
  split at h
  · simp at h
  rename_i h3
  split at h
  · simp at h
  split at h
  · simp at h
  rename_i h5
  refine ⟨by simpa using h1, by simpa using h2, Decidable.not_not.1 h3, by omega, ?_⟩
  split at h
  · rename_i h6; exact .inl h6
  · split at h
    · simp at h
    · rename_i h7; exact .inr (by omega)

/-- What a plan that changes an account says of it. -/
theorem plan_may {c : Config} {a : Acc} {k n : Int} {l : List UInt8} (ha : sAcc a c.per = true) (he : (sLook c a k n l).result.err = 0) (hc : (sLook c a k n l).changes = true) :
    sAcc (sLook c a k n l).after c.per = true ∧ (sLook c a k n l).delta = sQ (sLook c a k n l).after.txs - sQ a.txs ∧ (sLook c a k n l).after.sender = a.sender ∧ a.base ≤ (sLook c a k n l).after.base := by
  obtain ⟨hb, hk⟩ := sAcc_spec.1 ha
  unfold sLook at he hc ⊢
  split
  · rename_i h0
    rw [if_pos h0] at he hc
    unfold sAdd at he hc ⊢
    cases hd : sDec l with
    | none => rw [hd] at hc; simp [wrong] at hc
    | some t =>
      rw [hd] at he hc
      simp only at he hc ⊢
      split
      · rename_i hp
        obtain ⟨h1, h2, h3, h4, h5⟩ := place_ok hp
        refine ⟨sAcc_spec.2 ⟨?_, ?_⟩, rfl, rfl, Int.le_refl _⟩
        · simp only [sTo, sPut, sPutL]
          split
          · rename_i hf; rw [rep_len hf]; exact hb
          · rename_i hf
            rw [ins_len]
            rcases h5 with h5 | h5
            · exact absurd h5 hf
            · omega
        · simp only [sTo, sPut, sPutL]
          split
          · rename_i hf; exact chk_rep h2 h3 hf hk
          · rename_i hf
            exact chk_ins h2 h3 (sFind_not (by simpa using hf)) h4 hk
      · rename_i hp; rw [if_neg hp] at hc; simp [wrong] at hc
  · rename_i h0
    rw [if_neg h0] at he hc
    split
    · rename_i h1; rw [if_pos h1] at he hc
      unfold sDropP at he hc ⊢
      split
      · rename_i hp; rw [if_pos hp] at hc; simp [wrong] at hc
      · refine ⟨sAcc_spec.2 ⟨?_, chk_filter _ hk⟩, rfl, rfl, Int.le_refl _⟩
        have := sDrop_len a n
        simp only [sTo, sDrop] at this ⊢
        omega
    · rename_i h1; rw [if_neg h1] at he hc
      split
      · rename_i h2; rw [if_pos h2] at he hc
        unfold sAdvP at he hc ⊢
        split
        · rename_i hp; rw [if_pos hp] at hc; simp [wrong] at hc
        · rename_i hq; rw [if_neg hq] at he hc
          split
          · rename_i hp
            unfold sAdv at hp ⊢
            split at hp
            · simp at hp
            · rename_i g1
              split at hp
              · simp at hp
              · rename_i g2
                rw [if_neg g1, if_neg g2]
                have hlen := List.length_filter_le (fun t : Tx => !decide (t.nonce < n)) a.txs
                refine ⟨sAcc_spec.2 ⟨?_, ?_⟩, rfl, rfl, ?_⟩
                · simp only [sTo]; omega
                · simp only [sTo]
                  refine chk_ge (chk_filter _ hk) fun t ht => ?_
                  have := (List.mem_filter.1 ht).2
                  simp at this
                  exact this
                · simp only [sTo]; omega
          · rename_i hp; rw [if_neg hp] at hc; simp [wrong] at hc
      · rename_i h2; rw [if_neg h2] at he hc
        split
        · rename_i h3; rw [if_pos h3] at he hc
          unfold sGet at hc
          split at hc
          · simp [wrong] at hc
          · simp at hc
        · rename_i h3; rw [if_neg h3] at hc; simp [wrong] at hc

theorem plan_still {c : Config} {a : Acc} {k n : Int} {l : List UInt8} (he : (sLook c a k n l).result.err = 0) (hc : (sLook c a k n l).changes = false) : (sLook c a k n l).delta = 0 ∧ (sLook c a k n l).events.length = 0 := by
  unfold sLook at he hc ⊢
  split
  · rename_i h0
    rw [if_pos h0] at he hc
    unfold sAdd at he hc ⊢
    cases hd : sDec l with
    | none => exact ⟨rfl, rfl⟩
    | some t =>
      rw [hd] at he hc
      simp only at he hc ⊢
      split
      · rename_i hp; rw [if_pos hp] at hc; simp [sTo] at hc
      · exact ⟨rfl, rfl⟩
  · rename_i h0
    rw [if_neg h0] at he hc
    split
    · rename_i h1; rw [if_pos h1] at he hc
      unfold sDropP at he hc ⊢
      split
      · exact ⟨rfl, rfl⟩
      · rename_i hp; rw [if_neg hp] at hc; simp [sTo] at hc
    · rename_i h1; rw [if_neg h1] at he hc
      split
      · rename_i h2; rw [if_pos h2] at he hc
        unfold sAdvP at he hc ⊢
        split
        · exact ⟨rfl, rfl⟩
        · rename_i hq; rw [if_neg hq] at he hc
          split
          · rename_i hp
            rw [if_pos hp] at hc
            simp only [sTo, decide_eq_false_iff_not, not_or] at hc ⊢
            have hg : (sAdv a n).2.1 = [] := List.eq_nil_of_length_eq_zero (by omega)
            refine ⟨?_, by simp [hg]⟩
            unfold sAdv at hp hg ⊢
            split at hp
            · simp at hp
            · rename_i g1
              split at hp
              · simp at hp
              · rename_i g2
                rw [if_neg g1, if_neg g2] at hg ⊢
                simp only at hg ⊢
                have : a.txs.filter (fun t => !decide (t.nonce < n)) = a.txs := by
                  rw [List.filter_eq_self]
                  intro t ht
                  have := List.filter_eq_nil_iff.1 hg t ht
                  simpa using this
                rw [this]; omega
          · exact ⟨rfl, rfl⟩
      · rename_i h2; rw [if_neg h2] at he hc
        split
        · unfold sGet
          split <;> exact ⟨rfl, rfl⟩
        · exact ⟨rfl, rfl⟩

theorem may_true (c : Config) (a : Acc) (o : Op) (ha : a.txs.length ≤ 1048576) (ho : o.data.size ≤ 1048576) : F_law15_LookMay c a o = some true := by
  have hl := w_law15_live_a
  have hT : Tiny a.txs := by simp only [Tiny]; omega
  have hS : Short (L o.data) := by simp only [Short]; rw [L_len]; omega
  have hs := p_r05_Small a hT.short
  cases h1 : sFew a.txs 30 with
  | false => exact w_law15_LookMay_a c a o (hs.trans (by rw [h1])) hl
  | true =>
    rw [h1] at hs
    by_cases h2 : (500 : Int) < o.data.size
    · exact w_law15_LookMay_b c a o hs h2 hl
    · have hc := p_r05_Check a c.per hT.short
      cases h3 : sAcc a c.per with
      | false => exact w_law15_LookMay_c c a o hs h2 (hc.trans (by rw [h3])) hl
      | true =>
        rw [h3] at hc
        have hp := p_look_Look c a o hT hS
        obtain ⟨p, hpp⟩ : ∃ p, p = sLook c a o.kind o.nonce (L o.data) := ⟨_, rfl⟩
        by_cases he : (sLook c a o.kind o.nonce (L o.data)).result.err = 0
        · cases hch : (sLook c a o.kind o.nonce (L o.data)).changes with
          | false =>
            obtain ⟨g1, g2⟩ := plan_still he hch
            exact w_law15_LookMay_e c a o hs h2 hc _ hp he hch g1 g2 hl
          | true =>
            obtain ⟨g1, g2, g3, g4⟩ := plan_may h3 he hch
            have hlen := (sLook_len c a o.kind o.nonce (L o.data)).1
            rw [← hpp] at hp he hch g1 g2 g3 g4 hlen
            have hpS : Short p.after.txs := by simp only [Tiny, Short] at *; omega
            have hafter : ({ sender := a.sender, base := p.after.base, txs := p.after.txs } : Acc) = p.after := by rw [← g3]
            have hw : IntKind.i64.wrap (sQ a.txs + p.delta) = sQ p.after.txs := by
              have r1 := sQ_range p.after.txs
              rw [g2, wrap64 (by simp only [Short] at hpS; omega) (by simp only [Short] at hpS; omega)]
              omega
            refine w_law15_LookMay_f c a o hs h2 hc p _ _ hp he hch ?_ ?_ (p_r05_Slots a hT.short) hw g3 g4 hl
            · rw [hafter, p_r05_Check _ _ hpS, g1]
            · rw [hafter, p_r05_Slots _ hpS]
        · obtain ⟨e, hw⟩ := wrong_err he
          rw [hw] at hp he
          exact w_law15_LookMay_d c a o hs h2 hc _ hp he rfl rfl rfl (p_r05_Same zAcc (by simp [zAcc])) hl

end Go.Vm

set_option linter.unusedVariables false
set_option linter.unusedSimpArgs false
namespace Go.Proofs.Ytmdccbecmilljaa.lookMay
open Go Go.ChangeShapes Go.WideShapes Go.ChangeAt Go.RowKit Go.Vm

theorem own : ownKnob Try.prog.godebug = none := by kernel_rfl

theorem walk (x0 : Vm.Config) (x1 : Vm.Acc) (x2 : Vm.Op) (b1 : x1.txs.length ≤ 1048576) (b2 : x2.data.size ≤ 1048576) (W : World) (v0 v1 v2 : Value)
    (h0 : DAR (cellsF W) ((eT ceConfig).enc x0) v0) (h1 : DAR (cellsF W) ((eT ceAcc).enc x1) v1) (h2 : DAR (cellsF W) ((eT ceOp).enc x2) v2) :
    Calls Try.prog 4 #[v0, v1, v2] W fun e w' => e = .returned (.bool true) ∧ Below W.heap.size W w' := by
  have hc := cc_law15_LookMay (cellsF W) W [(eT ceConfig).enc x0, (eT ceAcc).enc x1, (eT ceOp).enc x2] [v0, v1, v2] ((res1 rB).enc true) (sat_cells W)
    (All2.cons h0 (All2.cons h1 (All2.cons h2 All2.nil))) (by
      simp only [M_law15_LookMay, con3, eT, ceConfig_d, ceConfig_c, Config.dc, ceAcc_d, ceAcc_c, Acc.dc, ceOp_d, ceOp_c, Op.dc, Option.bind_some, may_true x0 x1 x2 b1 b2]
      rfl)
  refine hc.mono fun e w' hp => ?_
  obtain ⟨v, Φ', he, hb, _, _, _, hv⟩ := hp
  refine ⟨?_, hb⟩
  obtain ⟨vs, rfl, hvs, _⟩ := hv
  obtain ⟨u, vs', rfl, hu, hn⟩ := hvs.cons_left
  obtain rfl := hn.nil_left
  rw [he]
  cases hu with
  | sc => rfl

theorem contract (H : Type) (enc : TypeId × Value → H) (W : World) (base : Nat) (args : Array Value) (ds gs : List (DataW H)) (before : List MemPlace)
    (hval : ∀ (j : Nat) t v, Try.f4.params[j]? = some t → args[j]? = some v → Value.okWide Try.prog W .any base t v)
    (hW : DataW.Whole enc Try.prog Try.f4.params.toList Rows.lookMaySpec.vars false W args.toList ds gs before) (hk : Rows.uptoSmall H (ds ++ gs) = true) :
    Calls Try.prog 4 args W fun e W' => ∃ v, e = .returned v ∧ Rows.lookMaySpec.post enc Try.prog Try.f4 false true false false W args v W' := by
  have hW' := hW
  obtain ⟨p, q, hA0, hV, rfl, hfz, hnd⟩ := hW
  have hA : DataW.TrodAll enc Try.prog W 0 (fun _ => true) true Try.f4.params.toList args.toList ds p := hA0
  rw [Try.params4] at hA
  obtain ⟨v0, v1, v2, d0, d1, d2, p0, p1, p2, rfl, rfl, rfl, h0, h1, h2⟩ := trodAll_three hA
  obtain ⟨rfl, rfl⟩ := trodVars_none hV
  have hB : Rows.uptoBulkAll ([d0, d1, d2] ++ ([] : List (DataW H))) ≤ 1048576 := of_decide_eq_true hk
  simp only [List.append_nil, Rows.uptoBulkAll] at hB hW'
  obtain ⟨x0, hx0⟩ := argConfig h0
  obtain ⟨x1, hx1, b1⟩ := argAcc (B := 1048576) h1 (by omega)
  obtain ⟨x2, hx2, b2⟩ := argOp (B := 1048576) h2 (by omega)
  have hlt : ∀ x ∈ p0 ++ p1 ++ p2, x.block < W.heap.size := fun x hx => by simpa using hW'.lt x hx
  refine (walk x0 x1 x2 b1 b2 W v0 v1 v2 hx0 hx1 hx2).mono fun e W' ⟨he, hb⟩ => ?_
  subst he
  refine ⟨_, rfl, [d0, d1, d2], [], p0 ++ p1 ++ p2, [], p0 ++ p1 ++ p2, [], by simpa using hW', ?_, ?_, rfl, hb.frame _, fun h => by cases h⟩
  · exact trodAll_cons_mk (shut_bool Try.underlying4 _) trodAll_mk0
  · rw [Try.params4]
    have e : p0 ++ p1 ++ p2 = p0 ++ (p1 ++ p2) := List.append_assoc _ _ _
    rw [e]
    exact trodAll_mk3 (Below.trod (by kernel_rfl) (by kernel_rfl) (of_decide_eq_true (by kernel_rfl)) h0 hb (fun x hx => hlt x (by simp [hx])))
      (Below.trod (by kernel_rfl) (by kernel_rfl) (of_decide_eq_true (by kernel_rfl)) h1 hb (fun x hx => hlt x (by simp [hx])))
      (Below.trod (by kernel_rfl) (by kernel_rfl) (of_decide_eq_true (by kernel_rfl)) h2 hb (fun x hx => hlt x (by simp [hx])))

def wit : Array Value := #[.agg #[.int .i64 0, .int .i64 0, .int .i64 0, .int .i64 0, .int .i64 0, .int .i64 0, .int .i64 0, .int .i64 0], .agg #[.int .i64 0, .int .i64 0, .slice none 0 0], .agg #[.int .i64 0, .int .i64 0, .int .i64 0, .int .i64 0, .string .empty]]

set_option maxRecDepth 100000 in
theorem lifted (os : Os) (started : os.Started) (H : Type) (enc : TypeId × Value → H) (F : Stop.Interp) :
    ReturnsInHanded {} Try.checked os 4 .any ((Rows.OpenSpec.upto Rows.lookMaySpec).pre6 enc Try.prog Try.f4 Rows.lookMayUptoRow.domain false) (((Rows.OpenSpec.upto Rows.lookMaySpec).at F).post enc Try.prog Try.f4 false true false false) := by
  refine returnsInHanded_of_cond (C := Try.checked) (s := Rows.OpenSpec.upto Rows.lookMaySpec) (k := Rows.uptoSmall) rfl own started (by kernel_rfl) Try.func4
    (OpenSpec.witness (enc := enc) (C := Try.checked) (s := Rows.OpenSpec.upto Rows.lookMaySpec) (k := Rows.uptoSmall) rfl false ⟨#[], wit, []⟩ 8 (by kernel_rfl) (by kernel_rfl) (by kernel_rfl)
      (x := ([.agg [.lit (.int .i64 0), .lit (.int .i64 0), .lit (.int .i64 0), .lit (.int .i64 0), .lit (.int .i64 0), .lit (.int .i64 0), .lit (.int .i64 0), .lit (.int .i64 0)], .agg [.lit (.int .i64 0), .lit (.int .i64 0), .nil], .agg [.lit (.int .i64 0), .lit (.int .i64 0), .lit (.int .i64 0), .lit (.int .i64 0), .lit (.string [])]], [], [])) (by kernel_rfl) rfl (by kernel_rfl)) ?_
  intro W base args ds gs before hval hW _ hk _
  exact contract H enc W base args ds gs before hval hW hk

theorem proved : Rows.LookMayUptoSaid :=
  OpenClaim.holds_of_cond 4 Try.f4 rfl rfl rfl rfl rfl rfl rfl ⟨rfl, rfl, rfl, rfl, rfl⟩ rfl rfl rfl rfl rfl (by kernel_rfl) Try.func4 (by kernel_rfl)
    (of_decide_eq_true (by kernel_rfl)) (by unfold Func.isWrapper; first | (rw [if_pos (by decide +kernel)]; kernel_rfl) | (rw [if_neg (by decide +kernel)]; exact ⟨rfl, rfl⟩))
    (fun os started H enc _ F => lifted os started H enc F)
end Go.Proofs.Ytmdccbecmilljaa.lookMay
