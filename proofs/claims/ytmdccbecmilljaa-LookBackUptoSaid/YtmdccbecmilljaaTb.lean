/- LookBack returns true for every input of bulk at most 1048576, and leaves what it is given as it was. Conditions: none but that bulk. -/
import Derived.Test.YtmdccbecmilljaaL
import Derived.Test.YtmdccbecmilljaaProg
import Derived.Test.YtmdccbecmilljaaR
import Derived.OpenShut

/- What Go functions come to, as Lean functions: each with its contract. -/
set_option linter.unusedVariables false
set_option linter.unusedSimpArgs false
namespace Go.Vm
open Go Go.RowKit

/-! ### hopper/hopperlaw15.LookBack -/
theorem en_law15_LookBack : Enters Go.Proofs.Try.prog 5 := ⟨_, Go.Proofs.Try.func5, rfl, rfl⟩
def ty_law15_LookBack : List (Nat × TI) := [(23, { size := 8, bytes := 64, agg := true, zero := [.sc (.int .i64 0), .sc (.int .i64 0), .sc (.int .i64 0), .sc (.int .i64 0), .sc (.int .i64 0), .sc (.int .i64 0), .sc (.int .i64 0), .sc (.int .i64 0)], kind := .struct [(0, 1, false), (1, 1, false), (2, 1, false), (3, 1, false), (4, 1, false), (5, 1, false), (6, 1, false), (7, 1, false)] }), (26, { size := 3, bytes := 40, agg := true, zero := [.sc (.int .i64 0), .sc (.int .i64 0), .sl []], kind := .struct [(0, 1, false), (1, 1, false), (2, 1, false)] }), (34, { size := 6, bytes := 56, agg := true, zero := [.sc (.int .i64 0), .sc (.int .i64 0), .sc (.int .i64 0), .sc (.int .i64 0), .sc (.int .i64 0), .sc (.string "".toByteArray)], kind := .struct [(0, 1, false), (1, 1, false), (2, 1, false), (3, 1, false), (4, 1, false), (5, 1, false)] }), (3, { size := 1, bytes := 8, agg := false, zero := [.sc (.int .i64 0)], kind := .int .i64 }), (40, { size := 5, bytes := 48, agg := true, zero := [.sc (.int .i64 0), .sc (.int .i64 0), .sc (.int .i64 0), .sc (.int .i64 0), .sc (.string "".toByteArray)], kind := .struct [(0, 1, false), (1, 1, false), (2, 1, false), (3, 1, false), (4, 1, false)] }), (38, { size := 15, bytes := 176, agg := true, zero := [.sc (.bool false), .sc (.int .i64 0), .sc (.int .i64 0), .sc (.int .i64 0), .sl [], .sl [], .sc (.int .i64 0), .sc (.int .i64 0), .sc (.int .i64 0), .sc (.int .i64 0), .sc (.int .i64 0), .sc (.int .i64 0), .sc (.string "".toByteArray), .sl [], .sc (.int .i64 0)], kind := .struct [(0, 1, false), (1, 1, false), (2, 3, true), (5, 1, false), (6, 9, true)] }), (36, { size := 9, bytes := 96, agg := true, zero := [.sc (.int .i64 0), .sc (.int .i64 0), .sc (.int .i64 0), .sc (.int .i64 0), .sc (.int .i64 0), .sc (.int .i64 0), .sc (.string "".toByteArray), .sl [], .sc (.int .i64 0)], kind := .struct [(0, 1, false), (1, 6, true), (7, 1, false), (8, 1, false)] }), (32, { size := 1, bytes := 8, agg := false, zero := [.sc (.int .i64 0)], kind := .int .i64 }), (4, { size := 1, bytes := 1, agg := false, zero := [.sc (.bool false)], kind := .bool }), (31, { size := 1, bytes := 24, agg := false, zero := [.sl []], kind := .slice 65 }), (65, { size := 8, bytes := 72, agg := true, zero := [.sc (.int .i64 0), .sc (.int .i64 0), .sc (.int .i64 0), .sc (.int .i64 0), .sc (.int .i64 0), .sc (.int .i64 0), .sc (.string "".toByteArray), .sc (.int .i64 0)], kind := .struct [(0, 1, false), (1, 6, true), (7, 1, false)] })]
noncomputable def C_law15_LookBack : Cfg := mkC ty_law15_LookBack [(34, [.i .i64, .i .i64, .i .i64, .i .i64, .i .i64, .s])] [(7, M_r05_Small), (23, M_r04_Small), (8, M_law15_live), (24, M_r04_Encode), (25, M_r05_Find), (9, M_look_Look), (21, M_r05_Same)] [7, 23, 8, 24, 25, 21] [] [] [] [(10, [true, true, true, true, true, true, true, false, true, true, true, true, true, true, true, true, true, true, true, true, true, false, true, true, true, false, true, true, true, true, true, false, true, true, true, true, true, true, true, true, true, true, true, true, true, true, true, true, true, false, true, true])]
theorem E_law15_LookBack : Env1 Go.Proofs.Try.prog C_law15_LookBack := mkC_ok (by kernel_rfl) (⟨⟨en_r05_Small, cc_r05_Small⟩, ⟨⟨en_r04_Small, cc_r04_Small⟩, ⟨⟨en_law15_live, cc_law15_live⟩, ⟨⟨en_r04_Encode, cc_r04_Encode⟩, ⟨⟨en_r05_Find, cc_r05_Find⟩, ⟨⟨en_look_Look, cc_look_Look⟩, ⟨⟨en_r05_Same, cc_r05_Same⟩, trivial⟩⟩⟩⟩⟩⟩⟩) (by kernel_rfl)
theorem C_law15_LookBack_ty : (C_law15_LookBack).ty = ty_law15_LookBack := rfl
theorem C_law15_LookBack_eqs : (C_law15_LookBack).eqs = [(34, [.i .i64, .i .i64, .i .i64, .i .i64, .i .i64, .s])] := rfl
theorem C_law15_LookBack_call : (C_law15_LookBack).call = fun f => (([(7, M_r05_Small), (23, M_r04_Small), (8, M_law15_live), (24, M_r04_Encode), (25, M_r05_Find), (9, M_look_Look), (21, M_r05_Same)] : List (Nat × (List DA → Option (List RV)))).lookup f).getD fun _ => none := rfl
theorem C_law15_LookBack_calls : (C_law15_LookBack).calls = [7, 23, 8, 24, 25, 9, 21] := rfl
theorem C_law15_LookBack_scal : (C_law15_LookBack).scal = [7, 23, 8, 24, 25, 21] := rfl
theorem C_law15_LookBack_owns : (C_law15_LookBack).owns = [] := rfl
theorem C_law15_LookBack_vars : (C_law15_LookBack).vars = [] := rfl
theorem C_law15_LookBack_ores : (C_law15_LookBack).ores = [] := rfl
theorem C_law15_LookBack_flags : (C_law15_LookBack).flags = [(10, [true, true, true, true, true, true, true, false, true, true, true, true, true, true, true, true, true, true, true, true, true, false, true, true, true, false, true, true, true, true, true, false, true, true, true, true, true, true, true, true, true, true, true, true, true, true, true, true, true, false, true, true])] := rfl
theorem C_law15_LookBack_pins : (C_law15_LookBack).pins = [] := rfl
theorem C_law15_LookBack_inls : (C_law15_LookBack).inls = [] := rfl
def T_law15_LookBack : List (Nat × LoopA) := []
noncomputable def F_law15_LookBack : Config → Acc → Tx → Option (Bool) := fun x0 x1 x2 => Wfn C_law15_LookBack T_law15_LookBack [] Go.Proofs.Try.f5 (res1 rB) [(eT ceConfig).enc x0, (eT ceAcc).enc x1, (eT ceTx).enc x2]
noncomputable def M_law15_LookBack : List DA → Option (List RV) := con3 (eT ceConfig) (eT ceAcc) (eT ceTx) (fun x0 x1 x2 => (F_law15_LookBack x0 x1 x2).map (res1 rB).enc)
set_option maxRecDepth 100000 in
theorem cc_law15_LookBack : CallC Go.Proofs.Try.prog 5 M_law15_LookBack := cc3 E_law15_LookBack Go.Proofs.Try.func5 rfl rfl (T := T_law15_LookBack) (G := []) (r := (res1 rB)) fun x0 x1 x2 => by unfold F_law15_LookBack; exact Wfn_eq rfl
set_option maxHeartbeats 20000000 in
set_option maxRecDepth 100000 in
theorem w_law15_LookBack_a (x0 : Config) (x1 : Acc) (x2 : Tx) (hs : F_r05_Small x1 = some false) (hl : F_law15_live = some true) : F_law15_LookBack x0 x1 x2 = some true := by
    unfold F_law15_LookBack Wfn
    simp only [Go.Proofs.Try.f5]
    unfold Wf
    simp (maxSteps := 10000000) (implicitDefEqProofs := false) [-evOps, -evOne, -evOp, -evIndexAddr, -evIndex, -evPick, -binV, -evLoad, -evStore, -loadC, -callV, -nilC, -storeC, -toDVs, -toDAs, -resRs, List.lookup, List.replicate, List.range_succ, ty_law15_LookBack, C_law15_LookBack_ty, C_law15_LookBack_eqs, C_law15_LookBack_call, C_law15_LookBack_calls, C_law15_LookBack_scal, C_law15_LookBack_owns, C_law15_LookBack_vars, C_law15_LookBack_ores, C_law15_LookBack_flags, C_law15_LookBack_pins, C_law15_LookBack_inls, T_law15_LookBack, Go.Proofs.Try.f5, M_r05_Small, M_r04_Small, M_law15_live, M_r04_Encode, M_r05_Find, M_look_Look, M_r05_Same, iC, uC, bC, sC, Acc.c, Config.c, Event.c, Op.c, Plan.c, Result.c, Tx.c, hs, hl]
    all_goals rfl
set_option maxHeartbeats 20000000 in
set_option maxRecDepth 100000 in
theorem w_law15_LookBack_b (x0 : Config) (x1 : Acc) (x2 : Tx) (hs : F_r05_Small x1 = some true) (ht : F_r04_Small x2 = some false) (hl : F_law15_live = some true) : F_law15_LookBack x0 x1 x2 = some true := by
    unfold F_law15_LookBack Wfn
    simp only [Go.Proofs.Try.f5]
    unfold Wf
    simp (maxSteps := 10000000) (implicitDefEqProofs := false) [-evOps, -evOne, -evOp, -evIndexAddr, -evIndex, -evPick, -binV, -evLoad, -evStore, -loadC, -callV, -nilC, -storeC, -toDVs, -toDAs, -resRs, List.lookup, List.replicate, List.range_succ, ty_law15_LookBack, C_law15_LookBack_ty, C_law15_LookBack_eqs, C_law15_LookBack_call, C_law15_LookBack_calls, C_law15_LookBack_scal, C_law15_LookBack_owns, C_law15_LookBack_vars, C_law15_LookBack_ores, C_law15_LookBack_flags, C_law15_LookBack_pins, C_law15_LookBack_inls, T_law15_LookBack, Go.Proofs.Try.f5, M_r05_Small, M_r04_Small, M_law15_live, M_r04_Encode, M_r05_Find, M_look_Look, M_r05_Same, iC, uC, bC, sC, Acc.c, Config.c, Event.c, Op.c, Plan.c, Result.c, Tx.c, hs, ht, hl]
    all_goals rfl
set_option maxHeartbeats 20000000 in
set_option maxRecDepth 100000 in
theorem w_law15_LookBack_c (x0 : Config) (x1 : Acc) (x2 : Tx) (hs : F_r05_Small x1 = some true) (ht : F_r04_Small x2 = some true) (s : ByteArray) (b : Bool) (t : Tx) (had : Bool) (p : Plan) (h1 : F_r04_Encode x2 = some (s, b)) (h2 : F_r05_Find x1 x2.nonce = some (t, had)) (h3 : F_look_Look x0 x1 { kind := 0, sender := 0, nonce := 0, gas := 0, data := s } = some p) (he : ¬ p.result.err = 0) (hl : F_law15_live = some true) : F_law15_LookBack x0 x1 x2 = some true := by
    unfold F_law15_LookBack Wfn
    simp only [Go.Proofs.Try.f5]
    unfold Wf
    simp (maxSteps := 10000000) (implicitDefEqProofs := false) [-evOps, -evOne, -evOp, -evIndexAddr, -evIndex, -evPick, -binV, -evLoad, -evStore, -loadC, -callV, -nilC, -storeC, -toDVs, -toDAs, -resRs, List.lookup, List.replicate, List.range_succ, ty_law15_LookBack, C_law15_LookBack_ty, C_law15_LookBack_eqs, C_law15_LookBack_call, C_law15_LookBack_calls, C_law15_LookBack_scal, C_law15_LookBack_owns, C_law15_LookBack_vars, C_law15_LookBack_ores, C_law15_LookBack_flags, C_law15_LookBack_pins, C_law15_LookBack_inls, T_law15_LookBack, Go.Proofs.Try.f5, M_r05_Small, M_r04_Small, M_law15_live, M_r04_Encode, M_r05_Find, M_look_Look, M_r05_Same, iC, uC, bC, sC, Acc.c, Config.c, Event.c, Op.c, Plan.c, Result.c, Tx.c, hs, ht, h1, h2, h3, he, hl]
    all_goals rfl
set_option maxHeartbeats 20000000 in
set_option maxRecDepth 100000 in
theorem w_law15_LookBack_d (x0 : Config) (x1 : Acc) (x2 : Tx) (hs : F_r05_Small x1 = some true) (ht : F_r04_Small x2 = some true) (s : ByteArray) (b : Bool) (t : Tx) (p : Plan) (h1 : F_r04_Encode x2 = some (s, b)) (h2 : F_r05_Find x1 x2.nonce = some (t, true)) (h3 : F_look_Look x0 x1 { kind := 0, sender := 0, nonce := 0, gas := 0, data := s } = some p) (he : p.result.err = 0) (hl : F_law15_live = some true) : F_law15_LookBack x0 x1 x2 = some true := by
    unfold F_law15_LookBack Wfn
    simp only [Go.Proofs.Try.f5]
    unfold Wf
    simp (maxSteps := 10000000) (implicitDefEqProofs := false) [-evOps, -evOne, -evOp, -evIndexAddr, -evIndex, -evPick, -binV, -evLoad, -evStore, -loadC, -callV, -nilC, -storeC, -toDVs, -toDAs, -resRs, List.lookup, List.replicate, List.range_succ, ty_law15_LookBack, C_law15_LookBack_ty, C_law15_LookBack_eqs, C_law15_LookBack_call, C_law15_LookBack_calls, C_law15_LookBack_scal, C_law15_LookBack_owns, C_law15_LookBack_vars, C_law15_LookBack_ores, C_law15_LookBack_flags, C_law15_LookBack_pins, C_law15_LookBack_inls, T_law15_LookBack, Go.Proofs.Try.f5, M_r05_Small, M_r04_Small, M_law15_live, M_r04_Encode, M_r05_Find, M_look_Look, M_r05_Same, iC, uC, bC, sC, Acc.c, Config.c, Event.c, Op.c, Plan.c, Result.c, Tx.c, hs, ht, h1, h2, h3, he, hl]
    all_goals rfl
set_option maxHeartbeats 20000000 in
set_option maxRecDepth 100000 in
theorem w_law15_LookBack_e (x0 : Config) (x1 : Acc) (x2 : Tx) (hs : F_r05_Small x1 = some true) (ht : F_r04_Small x2 = some true) (s : ByteArray) (b : Bool) (t : Tx) (p q r : Plan) (k1 k2 : Int) (h1 : F_r04_Encode x2 = some (s, b)) (h2 : F_r05_Find x1 x2.nonce = some (t, false)) (h3 : F_look_Look x0 x1 { kind := 0, sender := 0, nonce := 0, gas := 0, data := s } = some p) (he : p.result.err = 0) (h4 : F_look_Look x0 p.after { kind := 3, sender := 0, nonce := x2.nonce, gas := 0, data := ByteArray.empty } = some q) (h5 : F_look_Look x0 p.after { kind := 1, sender := 0, nonce := x2.nonce, gas := 0, data := ByteArray.empty } = some r) (h6 : q.result.tx = x2) (h7 : r.changes = true) (h8 : r.delta = IntKind.i64.wrap (-p.delta)) (h9 : F_r05_Same r.after x1 = some true) (h10 : p.events = [{ kind := k1, tx := x2, n := 0 }]) (h11 : r.events = [{ kind := k2, tx := x2, n := 0 }]) (hl : F_law15_live = some true) : F_law15_LookBack x0 x1 x2 = some true := by
    unfold F_law15_LookBack Wfn
    simp only [Go.Proofs.Try.f5]
    unfold Wf
    simp (maxSteps := 10000000) (implicitDefEqProofs := false) [-evOps, -evOne, -evOp, -evIndexAddr, -evIndex, -evPick, -binV, -evLoad, -evStore, -loadC, -callV, -nilC, -storeC, -toDVs, -toDAs, -resRs, List.lookup, List.replicate, List.range_succ, ty_law15_LookBack, C_law15_LookBack_ty, C_law15_LookBack_eqs, C_law15_LookBack_call, C_law15_LookBack_calls, C_law15_LookBack_scal, C_law15_LookBack_owns, C_law15_LookBack_vars, C_law15_LookBack_ores, C_law15_LookBack_flags, C_law15_LookBack_pins, C_law15_LookBack_inls, T_law15_LookBack, Go.Proofs.Try.f5, M_r05_Small, M_r04_Small, M_law15_live, M_r04_Encode, M_r05_Find, M_look_Look, M_r05_Same, iC, uC, bC, sC, Acc.c, Config.c, Event.c, Op.c, Plan.c, Result.c, Tx.c, hs, ht, h1, h2, h3, he, h4, h5, h6, h7, h8, h9, h10, h11, hl]
    all_goals rfl

end Go.Vm

/- Why LookBack answers true. -/
set_option linter.unusedVariables false
set_option linter.unusedSimpArgs false
namespace Go.Vm
open Go Go.RowKit

theorem find_ins {t : Tx} : ∀ {l : List Tx}, (∀ x ∈ l, x.nonce ≠ t.nonce) → sFind (sIns t l) t.nonce = (t, true)
  | [], _ => by simp [sIns, sFind]
  | x :: l, h => by
    have hx := h x (List.mem_cons_self)
    by_cases hn : t.nonce < x.nonce
    · simp [sIns, hn, sFind]
    · have ih := find_ins (l := l) fun y hy => h y (List.mem_cons_of_mem _ hy)
      simp only [sIns, hn, if_false]
      unfold sFind at ih ⊢
      rw [List.find?_cons_of_neg (by simpa using hx)]
      exact ih

theorem drop_ins {t : Tx} : ∀ {l : List Tx}, (∀ x ∈ l, x.nonce ≠ t.nonce) → (sIns t l).filter (fun x => decide (x.nonce ≠ t.nonce)) = l
  | [], _ => by simp [sIns]
  | x :: l, h => by
    have hx := h x (List.mem_cons_self)
    have hl : ∀ y ∈ l, y.nonce ≠ t.nonce := fun y hy => h y (List.mem_cons_of_mem _ hy)
    by_cases hn : t.nonce < x.nonce
    · have : l.filter (fun x => decide (x.nonce ≠ t.nonce)) = l := List.filter_eq_self.2 fun y hy => by simpa using hl y hy
      simp only [sIns, hn, if_true]
      rw [List.filter_cons_of_neg (by simp), List.filter_cons_of_pos (by simpa using hx), this]
    · simp only [sIns, hn, if_false]
      rw [List.filter_cons_of_pos (by simpa using hx), drop_ins hl]

theorem enc_len (t : Tx) (h : sTx t = true) : Short (encL t) := by
  obtain ⟨h1, h2, h3, h4, h5, h6, h7, h8, h9, h10, h11⟩ := sTx_spec h
  have l1 := numL_len (n := t.sender.toNat) (by omega)
  have l2 := numL_len (n := t.nonce.toNat) (by omega)
  have l3 := numL_len (n := t.tip.toNat) (by omega)
  have l4 := numL_len (n := t.cap.toNat) (by omega)
  have l5 := numL_len (n := t.gas.toNat) (by omega)
  have l6 := L_len t.data
  simp only [Short, encL, textL, List.length_cons, List.length_append]
  omega

theorem back_true (c : Config) (a : Acc) (t : Tx) (ha : a.txs.length ≤ 1048576) : F_law15_LookBack c a t = some true := by
  have hl := w_law15_live_a
  have hT : Tiny a.txs := by simp only [Tiny]; omega
  have hs := p_r05_Small a hT.short
  cases h1 : sFew a.txs 30 with
  | false => exact w_law15_LookBack_a c a t (hs.trans (by rw [h1])) hl
  | true =>
    rw [h1] at hs
    have ht := p_r04_Small t
    by_cases h2 : ¬ t.data.size ≤ 500
    · exact w_law15_LookBack_b c a t hs (ht.trans (by rw [decide_eq_false h2])) hl
    replace h2 := Decidable.not_not.1 h2
    rw [decide_eq_true h2] at ht
    have hE := p_r04_Encode t
    have hF := p_r05_Find a t.nonce hT.short
    cases h3 : sTx t with
    | false =>
      rw [h3] at hE
      have hp := p_look_Look c a ⟨0, 0, 0, 0, mk []⟩ hT (by simp [Short])
      have hw : sLook c a 0 0 (L (mk [])) = wrong 2 := by simp [sLook, sAdd, sDec]
      simp only at hp
      rw [hw] at hp
      exact w_law15_LookBack_c c a t hs ht (mk []) false _ _ _ hE hF hp (by decide) hl
    | true =>
      rw [h3] at hE
      have hS := enc_len t h3
      have hp := p_look_Look c a ⟨0, 0, 0, 0, mk (encL t)⟩ hT (by simpa using hS)
      have hw : sLook c a 0 0 (L (mk (encL t))) = if (sPlace a t c.per c.bump).2 = 0 then sTo a (sPut a t) [⟨if (sFind a.txs t.nonce).2 = true then 2 else 1, t, 0⟩] zRes true else wrong (sPlace a t c.per c.bump).2 := by
        simp only [sLook, if_true, L_mk, sAdd, sDec_enc t h3]
      simp only at hp
      rw [hw] at hp
      by_cases h4 : ¬ (sPlace a t c.per c.bump).2 = 0
      · rw [if_neg h4] at hp
        exact w_law15_LookBack_c c a t hs ht _ true _ _ _ hE hF hp h4 hl
      replace h4 := Decidable.not_not.1 h4
      rw [if_pos h4] at hp
      cases h5 : (sFind a.txs t.nonce).2 with
      | true =>
        have hF' : F_r05_Find a t.nonce = some ((sFind a.txs t.nonce).1, true) := by rw [hF, ← h5]
        exact w_law15_LookBack_d c a t hs ht _ true _ _ hE hF' hp rfl hl
      | false =>
        have hF' : F_r05_Find a t.nonce = some ((sFind a.txs t.nonce).1, false) := by rw [hF, ← h5]
        rw [h5] at hp
        have hno := sFind_not h5
        have hput : sPut a t = ⟨a.sender, a.base, sIns t a.txs⟩ := by
          unfold sPut sPutL
          rw [h5]; simp
        have hlen : (sPut a t).txs.length ≤ 1048577 := by
          have := sPutL_len a.txs t
          simp only [sPut]; omega
        have hT2 : Tiny (sPut a t).txs := by simp only [Tiny]; omega
        have hfind : sFind (sPut a t).txs t.nonce = (t, true) := by rw [hput]; exact find_ins hno
        have hdrop : sDrop (sPut a t) t.nonce = a := by
          rw [hput]
          unfold sDrop
          rw [drop_ins hno]
        have hq := p_look_Look c (sPut a t) ⟨3, 0, t.nonce, 0, ByteArray.empty⟩ hT2 (by rw [show L ByteArray.empty = [] from L_empty]; simp [Short])
        have hr := p_look_Look c (sPut a t) ⟨1, 0, t.nonce, 0, ByteArray.empty⟩ hT2 (by rw [show L ByteArray.empty = [] from L_empty]; simp [Short])
        have hq2 : sLook c (sPut a t) 3 t.nonce (L ByteArray.empty) = ⟨false, 0, zAcc, [], ⟨0, t, [], 0⟩⟩ := by
          simp [sLook, sGet, hfind]
        have hr2 : sLook c (sPut a t) 1 t.nonce (L ByteArray.empty) = sTo (sPut a t) a [⟨3, t, 0⟩] ⟨0, t, [], 0⟩ true := by
          simp [sLook, sDropP, hfind, hdrop]
        simp only at hq hr
        rw [hq2] at hq
        rw [hr2] at hr
        have hneg : sQ a.txs - sQ (sPut a t).txs = IntKind.i64.wrap (-(sQ (sPut a t).txs - sQ a.txs)) := by
          have r1 := sQ_range a.txs
          have r2 := sQ_range (sPut a t).txs
          rw [wrap64 (by omega) (by omega)]; omega
        exact w_law15_LookBack_e c a t hs ht _ true _ _ _ _ 1 3 hE hF' hp rfl hq hr rfl rfl hneg (p_r05_Same a hT.short) rfl rfl hl

end Go.Vm

set_option linter.unusedVariables false
set_option linter.unusedSimpArgs false
namespace Go.Proofs.Ytmdccbecmilljaa.lookBack
open Go Go.ChangeShapes Go.WideShapes Go.ChangeAt Go.RowKit Go.Vm

theorem own : ownKnob Try.prog.godebug = none := by kernel_rfl

theorem walk (x0 : Vm.Config) (x1 : Vm.Acc) (x2 : Vm.Tx) (b1 : x1.txs.length ≤ 1048576) (W : World) (v0 v1 v2 : Value)
    (h0 : DAR (cellsF W) ((eT ceConfig).enc x0) v0) (h1 : DAR (cellsF W) ((eT ceAcc).enc x1) v1) (h2 : DAR (cellsF W) ((eT ceTx).enc x2) v2) :
    Calls Try.prog 5 #[v0, v1, v2] W fun e w' => e = .returned (.bool true) ∧ Below W.heap.size W w' := by
  have hc := cc_law15_LookBack (cellsF W) W [(eT ceConfig).enc x0, (eT ceAcc).enc x1, (eT ceTx).enc x2] [v0, v1, v2] ((res1 rB).enc true) (sat_cells W)
    (All2.cons h0 (All2.cons h1 (All2.cons h2 All2.nil))) (by
      simp only [M_law15_LookBack, con3, eT, ceConfig_d, ceConfig_c, Config.dc, ceAcc_d, ceAcc_c, Acc.dc, ceTx_d, ceTx_c, Tx.dc, Option.bind_some, back_true x0 x1 x2 b1]
      rfl)
  refine hc.mono fun e w' hp => ?_
  obtain ⟨v, Φ', he, hb, _, _, _, hv⟩ := hp
  refine ⟨?_, hb⟩
  obtain ⟨vs, rfl, hvs, _⟩ := hv
  obtain ⟨u, vs', rfl, hu, hn⟩ := hvs.cons_left
  obtain rfl := hn.nil_left
  rw [he]
  cases hu with
  | sc => rfl

theorem contract (H : Type) (enc : TypeId × Value → H) (W : World) (base : Nat) (args : Array Value) (ds gs : List (DataW H)) (before : List MemPlace)
    (hval : ∀ (j : Nat) t v, Try.f5.params[j]? = some t → args[j]? = some v → Value.okWide Try.prog W .any base t v)
    (hW : DataW.Whole enc Try.prog Try.f5.params.toList Rows.lookBackSpec.vars false W args.toList ds gs before) (hk : Rows.uptoSmall H (ds ++ gs) = true) :
    Calls Try.prog 5 args W fun e W' => ∃ v, e = .returned v ∧ Rows.lookBackSpec.post enc Try.prog Try.f5 false true false false W args v W' := by
  have hW' := hW
  obtain ⟨p, q, hA0, hV, rfl, hfz, hnd⟩ := hW
  have hA : DataW.TrodAll enc Try.prog W 0 (fun _ => true) true Try.f5.params.toList args.toList ds p := hA0
  rw [Try.params5] at hA
  obtain ⟨v0, v1, v2, d0, d1, d2, p0, p1, p2, rfl, rfl, rfl, h0, h1, h2⟩ := trodAll_three hA
  obtain ⟨rfl, rfl⟩ := trodVars_none hV
  have hB : Rows.uptoBulkAll ([d0, d1, d2] ++ ([] : List (DataW H))) ≤ 1048576 := of_decide_eq_true hk
  simp only [List.append_nil, Rows.uptoBulkAll] at hB hW'
  obtain ⟨x0, hx0⟩ := argConfig h0
  obtain ⟨x1, hx1, b1⟩ := argAcc (B := 1048576) h1 (by omega)
  obtain ⟨x2, hx2, b2⟩ := argTx (B := 1048576) h2 (by omega)
  have hlt : ∀ x ∈ p0 ++ p1 ++ p2, x.block < W.heap.size := fun x hx => by simpa using hW'.lt x hx
  refine (walk x0 x1 x2 b1 W v0 v1 v2 hx0 hx1 hx2).mono fun e W' ⟨he, hb⟩ => ?_
  subst he
  refine ⟨_, rfl, [d0, d1, d2], [], p0 ++ p1 ++ p2, [], p0 ++ p1 ++ p2, [], by simpa using hW', ?_, ?_, rfl, hb.frame _, fun h => by cases h⟩
  · exact trodAll_cons_mk (shut_bool Try.underlying4 _) trodAll_mk0
  · rw [Try.params5]
    have e : p0 ++ p1 ++ p2 = p0 ++ (p1 ++ p2) := List.append_assoc _ _ _
    rw [e]
    exact trodAll_mk3 (Below.trod (by kernel_rfl) (by kernel_rfl) (of_decide_eq_true (by kernel_rfl)) h0 hb (fun x hx => hlt x (by simp [hx])))
      (Below.trod (by kernel_rfl) (by kernel_rfl) (of_decide_eq_true (by kernel_rfl)) h1 hb (fun x hx => hlt x (by simp [hx])))
      (Below.trod (by kernel_rfl) (by kernel_rfl) (of_decide_eq_true (by kernel_rfl)) h2 hb (fun x hx => hlt x (by simp [hx])))

def wit : Array Value := #[.agg #[.int .i64 0, .int .i64 0, .int .i64 0, .int .i64 0, .int .i64 0, .int .i64 0, .int .i64 0, .int .i64 0], .agg #[.int .i64 0, .int .i64 0, .slice none 0 0], .agg #[.int .i64 0, .int .i64 0, .int .i64 0, .int .i64 0, .int .i64 0, .string .empty]]

set_option maxRecDepth 100000 in
theorem lifted (os : Os) (started : os.Started) (H : Type) (enc : TypeId × Value → H) (F : Stop.Interp) :
    ReturnsInHanded {} Try.checked os 5 .any ((Rows.OpenSpec.upto Rows.lookBackSpec).pre6 enc Try.prog Try.f5 Rows.lookBackUptoRow.domain false) (((Rows.OpenSpec.upto Rows.lookBackSpec).at F).post enc Try.prog Try.f5 false true false false) := by
  refine returnsInHanded_of_cond (C := Try.checked) (s := Rows.OpenSpec.upto Rows.lookBackSpec) (k := Rows.uptoSmall) rfl own started (by kernel_rfl) Try.func5
    (OpenSpec.witness (enc := enc) (C := Try.checked) (s := Rows.OpenSpec.upto Rows.lookBackSpec) (k := Rows.uptoSmall) rfl false ⟨#[], wit, []⟩ 8 (by kernel_rfl) (by kernel_rfl) (by kernel_rfl)
      (x := ([.agg [.lit (.int .i64 0), .lit (.int .i64 0), .lit (.int .i64 0), .lit (.int .i64 0), .lit (.int .i64 0), .lit (.int .i64 0), .lit (.int .i64 0), .lit (.int .i64 0)], .agg [.lit (.int .i64 0), .lit (.int .i64 0), .nil], .agg [.lit (.int .i64 0), .lit (.int .i64 0), .lit (.int .i64 0), .lit (.int .i64 0), .lit (.int .i64 0), .lit (.string [])]], [], [])) (by kernel_rfl) rfl (by kernel_rfl)) ?_
  intro W base args ds gs before hval hW _ hk _
  exact contract H enc W base args ds gs before hval hW hk

theorem proved : Rows.LookBackUptoSaid :=
  OpenClaim.holds_of_cond 5 Try.f5 rfl rfl rfl rfl rfl rfl rfl ⟨rfl, rfl, rfl, rfl, rfl⟩ rfl rfl rfl rfl rfl (by kernel_rfl) Try.func5 (by kernel_rfl)
    (of_decide_eq_true (by kernel_rfl)) (by unfold Func.isWrapper; first | (rw [if_pos (by decide +kernel)]; kernel_rfl) | (rw [if_neg (by decide +kernel)]; exact ⟨rfl, rfl⟩))
    (fun os started H enc _ F => lifted os started H enc F)
end Go.Proofs.Ytmdccbecmilljaa.lookBack
