/- TaskAlone returns true for every input of bulk at most 1048576, and leaves what it is given as it was. Conditions: none but that bulk. -/
import Derived.Test.YtaidpcnnggknnaaGreatQ
import Derived.Test.YtaidpcnnggknnaaGreatR
import Derived.OpenShut

set_option linter.unusedVariables false
set_option linter.unusedSimpArgs false
namespace Go.Proofs.YtaidpcnnggknnaaGreat.taskAlone
open Go Go.ChangeShapes Go.WideShapes Go.ChangeAt Go.RowKit Go.Vm

theorem bnd_sh {x : Vm.Sight} (h : Bnd 1048576 x) : ShX x := ⟨h.1, h.2.1, fun q hq => ⟨(h.2.2 q hq).1, fun a ha => ((h.2.2 q hq).2 a ha).1⟩⟩

theorem own : ownKnob Tryz.prog.godebug = none := by kernel_rfl

theorem walk (x0 : Vm.Op) (x1 : Int) (x2 : Vm.Sight) (b0 : x0.data.size ≤ 1048576 ∧ wf64 x0.sender = true) (b2 : Bnd 1048576 x2) (W : World) (v0 v1 v2 : Value)
    (h0 : DAR (cellsF W) ((eT ceOp).enc x0) v0) (h1 : DAR (cellsF W) (eInt.enc x1) v1) (h2 : DAR (cellsF W) ((eT ceSight).enc x2) v2) :
    Calls Tryz.prog 10 #[v0, v1, v2] W fun e w' => e = .returned (.bool true) ∧ Below W.heap.size W w' := by
  have hc := cc_k2e (cellsF W) W [(eT ceOp).enc x0, eInt.enc x1, (eT ceSight).enc x2] [v0, v1, v2] ((res1 rB).enc true) (sat_cells W)
    (All2.cons h0 (All2.cons h1 (All2.cons h2 All2.nil))) (by
      simp only [M_k2e, con3, eT, ceOp_d, ceOp_c, Op.dc, eInt, I, ceSight_d, ceSight_c, Sight.dc, Option.bind_some, alone_true x0 x1 x2 b0.1 b0.2 (bnd_sh b2)]
      rfl)
  refine hc.mono fun e w' hp => ?_
  obtain ⟨v, Φ', he, hb, _, _, _, hv⟩ := hp
  refine ⟨?_, hb⟩
  obtain ⟨vs, rfl, hvs, _⟩ := hv
  obtain ⟨u, vs', rfl, hu, hn⟩ := hvs.cons_left
  obtain rfl := hn.nil_left
  rw [he]
  cases hu with
  | sc => rfl

theorem contract (H : Type) (enc : TypeId × Value → H) (W : World) (base : Nat) (args : Array Value) (ds gs : List (DataW H)) (before : List MemPlace)
    (hval : ∀ (j : Nat) t v, Tryz.f10.params[j]? = some t → args[j]? = some v → Value.okWide Tryz.prog W .any base t v)
    (hW : DataW.Whole enc Tryz.prog Tryz.f10.params.toList Rows.taskAloneSpec.vars false W args.toList ds gs before) (hk : Rows.uptoSmall H (ds ++ gs) = true) :
    Calls Tryz.prog 10 args W fun e W' => ∃ v, e = .returned v ∧ Rows.taskAloneSpec.post enc Tryz.prog Tryz.f10 false true false false W args v W' := by
  have hW' := hW
  obtain ⟨p, q, hA0, hV, rfl, hfz, hnd⟩ := hW
  have hA : DataW.TrodAll enc Tryz.prog W 0 (fun _ => true) true Tryz.f10.params.toList args.toList ds p := hA0
  rw [Tryz.params10] at hA
  obtain ⟨v0, v1, v2, d0, d1, d2, p0, p1, p2, rfl, rfl, rfl, h0, h1, h2⟩ := trodAll_three hA
  obtain ⟨rfl, rfl⟩ := trodVars_none hV
  have hB : Rows.uptoBulkAll ([d0, d1, d2] ++ ([] : List (DataW H))) ≤ 1048576 := of_decide_eq_true hk
  simp only [List.append_nil, Rows.uptoBulkAll] at hB hW'
  obtain ⟨x0, hx0, b0⟩ := argOp (B := 1048576) h0 (by omega)
  have hp1 : Tryz.f10.params[1]? = some 3 := by rw [Tryz.params10]; rfl
  have hk1 : ∃ k, v1 = Value.int .i64 k := by
    have h3 := u3
    revert hval h3
    generalize Tryz.prog = P
    intro hval h3
    exact okInt h3 hval hp1 rfl
  obtain ⟨x1, hx1, _⟩ := argInt hk1 h1
  obtain ⟨x2, hx2, b2⟩ := argSight (B := 1048576) h2 (by omega)
  have hlt : ∀ x ∈ p0 ++ p1 ++ p2, x.block < W.heap.size := fun x hx => by simpa using hW'.lt x hx
  refine (walk x0 x1 x2 b0 b2 W v0 v1 v2 hx0 hx1 hx2).mono fun e W' ⟨he, hb⟩ => ?_
  subst he
  refine ⟨_, rfl, [d0, d1, d2], [], p0 ++ p1 ++ p2, [], p0 ++ p1 ++ p2, [], by simpa using hW', ?_, ?_, rfl, hb.frame _, fun h => by cases h⟩
  · exact trodAll_cons_mk (shut_bool Tryz.underlying4 _) trodAll_mk0
  · rw [Tryz.params10]
    have e : p0 ++ p1 ++ p2 = p0 ++ (p1 ++ p2) := List.append_assoc _ _ _
    rw [e]
    exact trodAll_mk3 (Below.trod (by kernel_rfl) (by kernel_rfl) (of_decide_eq_true (by kernel_rfl)) h0 hb (fun x hx => hlt x (by simp [hx])))
      (Below.trod (by kernel_rfl) (by kernel_rfl) (of_decide_eq_true (by kernel_rfl)) h1 hb (fun x hx => hlt x (by simp [hx])))
      (Below.trod (by kernel_rfl) (by kernel_rfl) (of_decide_eq_true (by kernel_rfl)) h2 hb (fun x hx => hlt x (by simp [hx])))

def wit : Array Value := #[.agg #[.int .i64 0, .int .i64 0, .int .i64 0, .int .i64 0, .string .empty], .int .i64 0, .agg #[.int .i64 0, .int .i64 0, .int .i64 0, .int .i64 0, .int .i64 0, .int .i64 0, .int .i64 0, .int .i64 0, .slice none 0 0, .int .i64 0, .int .i64 0, .slice none 0 0]]

set_option maxRecDepth 100000 in
theorem lifted (os : Os) (started : os.Started) (H : Type) (enc : TypeId × Value → H) (F : Stop.Interp) :
    ReturnsInHanded {} Tryz.checked os 10 .any ((Rows.OpenSpec.upto Rows.taskAloneSpec).pre6 enc Tryz.prog Tryz.f10 Rows.taskAloneUptoRow.domain false) (((Rows.OpenSpec.upto Rows.taskAloneSpec).at F).post enc Tryz.prog Tryz.f10 false true false false) := by
  refine returnsInHanded_of_cond (C := Tryz.checked) (s := Rows.OpenSpec.upto Rows.taskAloneSpec) (k := Rows.uptoSmall) rfl own started (by kernel_rfl) Tryz.func10
    (OpenSpec.witness (enc := enc) (C := Tryz.checked) (s := Rows.OpenSpec.upto Rows.taskAloneSpec) (k := Rows.uptoSmall) rfl false ⟨#[], wit, []⟩ 8 (by kernel_rfl) (by kernel_rfl) (by kernel_rfl)
      (x := ([.agg [.lit (.int .i64 0), .lit (.int .i64 0), .lit (.int .i64 0), .lit (.int .i64 0), .lit (.string [])], .lit (.int .i64 0), .agg [.agg [.lit (.int .i64 0), .lit (.int .i64 0), .lit (.int .i64 0), .lit (.int .i64 0), .lit (.int .i64 0), .lit (.int .i64 0), .lit (.int .i64 0), .lit (.int .i64 0)], .nil, .agg [.lit (.int .i64 0), .lit (.int .i64 0)], .nil]], [], [])) (by kernel_rfl) rfl (by kernel_rfl)) ?_
  intro W base args ds gs before hval hW _ hk _
  exact contract H enc W base args ds gs before hval hW hk

theorem proved : Rows.TaskAloneUptoSaid :=
  OpenClaim.holds_of_cond 10 Tryz.f10 rfl rfl rfl rfl rfl rfl rfl ⟨rfl, rfl, rfl, rfl, rfl⟩ rfl rfl rfl rfl rfl (by kernel_rfl) Tryz.func10 (by kernel_rfl)
    (of_decide_eq_true (by kernel_rfl)) (by unfold Func.isWrapper; first | (rw [if_pos (by decide +kernel)]; kernel_rfl) | (rw [if_neg (by decide +kernel)]; exact ⟨rfl, rfl⟩))
    (fun os started H enc _ F => lifted os started H enc F)
end Go.Proofs.YtaidpcnnggknnaaGreat.taskAlone
