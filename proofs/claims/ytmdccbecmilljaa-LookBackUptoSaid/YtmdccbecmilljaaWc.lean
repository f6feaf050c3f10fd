/- strings.Builder: its copy check, in place. -/
import Derived.Test.YtmdccbecmilljaaVd
import Derived.Shelf.Strings.Builder1
import Derived.Test.YtmdccbecmilljaaProg
import Derived.Test.YtmdccbecmilljaaWb
import Derived.WalkKit
import Derived.Lib.Walk
import Derived.Lib.Overlaps
import Derived.Lib.AppendZerosOnto
import Derived.Laws.CopyRow
import Derived.Shelf.Spec.SlicesInsert

set_option linter.unusedVariables false
set_option linter.unusedSimpArgs false
namespace Go.Vm
open Go Go.RowKit Go.Shelf Go.Proofs

def bRen : Ren where
  f := fun k => if k = 240 then 89 else if k = 276 then 91 else 0
  t := fun k => if k = 70 then 117 else if k = 72 then 119 else if k = 37 then 105 else if k = 164 then 127 else k
  g := id

theorem bAgg {t : TypeId} {b : Bool} (h : (Go.Proofs.Try.prog.underlying t).map isAggD = some b) : ∀ w, (isAgg t).run Go.Proofs.Try.prog w = .ok b w := by
  intro w
  obtain ⟨d, hd, rfl⟩ := Option.map_eq_some_iff.1 h
  exact run_isAgg hd w
theorem bSize {t : TypeId} {n : Nat} (h : (Go.Proofs.Try.prog.info? t).map (·.size) = some n) : ∀ w, (Go.sizeOf t).run Go.Proofs.Try.prog w = .ok n w := by
  intro w
  obtain ⟨i, hi, hs⟩ := Option.map_eq_some_iff.1 h
  simp [sizeOf, typeInfo, hi, hs]
theorem bZero {t : TypeId} {z : Value} (h : (Go.Proofs.Try.prog.info? t).bind (·.zero) = some z) : ∀ w, (zeroValue t).run Go.Proofs.Try.prog w = .ok z w := by
  intro w
  obtain ⟨i, hi, hs⟩ := Option.bind_eq_some_iff.1 h
  simp [zeroValue, typeInfo, hi, hs]

set_option maxRecDepth 100000 in
theorem bLays : Lays.n240 Go.Proofs.Try.prog bRen where
  mixed := by kernel_rfl
  f240 := by kernel_rfl
  f276 := by kernel_rfl
  t0 := by kernel_rfl
  a0 := bAgg (by kernel_rfl)
  z0 := bSize (by kernel_rfl)
  v0 := bZero (by kernel_rfl)
  t4 := by kernel_rfl
  a4 := bAgg (by kernel_rfl)
  z4 := bSize (by kernel_rfl)
  v4 := bZero (by kernel_rfl)
  t9 := by kernel_rfl
  a9 := bAgg (by kernel_rfl)
  z9 := bSize (by kernel_rfl)
  v9 := bZero (by kernel_rfl)
  t20 := by kernel_rfl
  a20 := bAgg (by kernel_rfl)
  z20 := bSize (by kernel_rfl)
  v20 := bZero (by kernel_rfl)
  t70 := by kernel_rfl
  a70 := bAgg (by kernel_rfl)
  z70 := bSize (by kernel_rfl)
  v70 := bZero (by kernel_rfl)
  t72 := by kernel_rfl
  a72 := bAgg (by kernel_rfl)
  z72 := bSize (by kernel_rfl)
  v72 := bZero (by kernel_rfl)
  t164 := by kernel_rfl
  a164 := bAgg (by kernel_rfl)
  z164 := bSize (by kernel_rfl)
  v164 := bZero (by kernel_rfl)

theorem bX72 : Builder.X72 Go.Proofs.Try.prog bRen where
  sizeBuilder := by kernel_rfl
  liesBuilder := by kernel_rfl

/-- What the copy check does to the caller's builder. -/
def I_bld_copyCheck : List V1 → Objs → Option (TV × Objs)
  | [.one (.ptr id n off)], objs => match objs[id]? with
    | some (.box t [c0, c1]) => if t = 119 ∧ off = 0 ∧ n = 0 then match c0 with
        | .d (.sc (.pointer none)) => some (.tup [], objs.set id (.box t [.ptr id 0 0, c1]))
        | .ptr id' n' off' => if id' = id ∧ n' = 0 ∧ off' = 0 then some (.tup [], objs) else none
        | _ => none
      else none
    | _ => none
  | _, _ => none

theorem en_bld_copyCheck : Enters Go.Proofs.Try.prog 89 := ⟨_, Go.Proofs.Try.func89, rfl, rfl⟩

theorem ic_bld_copyCheck : InlC Go.Proofs.Try.prog 89 I_bld_copyCheck := by
  intro Φ θ base w objs vs args v objs' hs ha h
  unfold I_bld_copyCheck at h
  split at h
  case h_2 => cases h
  case h_1 id n off =>
  split at h
  case h_2 => cases h
  case h_1 t c0 c1 hob =>
  split at h
  case isFalse => cases h
  case isTrue hc =>
  obtain ⟨rfl, rfl, rfl⟩ := hc
  obtain ⟨u, us, rfl, hu, hus⟩ := ha.cons_left
  have := hus.nil_left; subst this
  obtain ⟨b, arr, hθ, hge, hh, hcells, hno⟩ := hs.ob id _ hob
  obtain ⟨b', hb', hv⟩ := ptr_val (Φ := Φ) hu (m := 0) (Lr_of hob) rfl
  rw [hθ] at hb'
  have : b = b' := by simpa [pblk] using hb'
  subst this
  subst hv
  obtain ⟨u0, l0, harr, h0, hl0⟩ := hcells.cons_left
  obtain ⟨u1, l1, rfl, h1, hl1⟩ := hl0.cons_left
  have := hl1.nil_left; subst this
  have harr : arr = #[u0, u1] := by rw [← Array.toArray_toList (xs := arr), harr]
  subst harr
  have hcell0 : w.cell? ⟨b, 0, none⟩ = some u0 := by rw [Lib.cell_of_heap hh]; rfl
  split at h
  case h_3 => cases h
  case h_1 =>
    simp only [Option.some.injEq, Prod.mk.injEq] at h
    obtain ⟨rfl, rfl⟩ := h
    have hu0 : u0 = .pointer none := (den_sc h0).1
    subst hu0
    have hsh : w.shape? b = some (bRen.t 72, 2) := by simp [World.shape?, hh, bRen]
    refine (Any.Builder_copyCheck_fresh bLays bX72 b w hcell0 hsh (Lib.frozen_of_heap hh 0)).mono ?_
    rintro e w' ⟨rfl, rfl⟩
    have hset : w.setCell ⟨b, 0, none⟩ (.pointer (some ⟨b, 0, none⟩)) = w.setRow b #[.pointer (some ⟨b, 0, none⟩), u1] := by
      have := setCell_eq_setRow w b 0 _ _ _ (.pointer (some ⟨b, 0, none⟩)) hh
      simpa using this
    rw [hset]
    have hgo : Go2 θ θ objs (objs.set id (.box 119 [.ptr id 0 0, c1])) := by
      have := go_set (θ := θ) (v := θ id) (ob := .box 119 [.ptr id 0 0, c1]) hob (fun m' hm' => ⟨m', hm', Nat.le_refl _, fun _ => rfl⟩)
      rwa [thAt_self] at this
    have hch := hs.change (w' := w.setRow b #[.pointer (some ⟨b, 0, none⟩), u1]) (ob := .box 119 [.ptr id 0 0, c1]) (θ id) hob (by rw [thAt_self]; exact hgo)
      ⟨b, _, by rw [thAt_self]; exact hθ, hge, heap_setRow hh, by
        rw [thAt_self]
        have h1 : All2 (CR Φ θ objs) [.ptr id 0 0, c1] [.pointer (some ⟨b, 0, none⟩), u1] :=
          All2.cons ⟨b, rfl, some 0, Lr_of hob, fun m hm => ⟨Nat.zero_le _, fun _ => by rw [hθ]; rfl⟩⟩ (All2.cons h1 All2.nil)
        exact h1.imp fun _ _ => CR.go (Le.refl _) hgo, hno⟩
      (sat_setRow hs.sat hno _)
      (fun i b' hi hm => by
        have hne : b' ≠ b := fun e => by
          subst e
          exact hi (hs.apart i id b' hm (by unfold mblk; rw [hob, hθ]; rfl))
        exact ⟨setRow_other w b b' _ hne, by rw [hθ]; simp [pblk]; exact fun e => hne e.symm⟩) (by simpa using hs.base)
    rw [thAt_self] at hch
    exact ⟨_, Φ, θ, rfl, ⟨Le.refl _, hgo, New.refl _ _, below_setRow _ hge⟩, hch, [], rfl, All2.nil⟩
  case h_2 id' n' off' =>
    split at h
    case isFalse => cases h
    case isTrue hc =>
    obtain ⟨rfl, rfl, rfl⟩ := hc
    simp only [Option.some.injEq, Prod.mk.injEq] at h
    obtain ⟨rfl, rfl⟩ := h
    obtain ⟨b2, hb2, hv2⟩ := ptr_val (Φ := Φ) h0 (m := 0) (Lr_of hob) rfl
    rw [hθ] at hb2
    have : b = b2 := by simpa [pblk] using hb2
    subst this
    subst hv2
    refine (Any.Builder_copyCheck_used bLays bX72 b w hcell0).mono ?_
    rintro e w' ⟨rfl, rfl⟩
    exact ⟨_, Φ, θ, rfl, Goes.refl _ _ _ _ _, hs, [], rfl, All2.nil⟩

end Go.Vm

/- What Go functions come to, as Lean functions: each with its contract. -/
set_option linter.unusedVariables false
set_option linter.unusedSimpArgs false
namespace Go.Vm
open Go Go.RowKit

/-! ### (*strings.Builder).WriteString -/
theorem en_bld_WriteString : Enters Go.Proofs.Try.prog 85 := ⟨_, Go.Proofs.Try.func85, rfl, rfl⟩
def ty_bld_WriteString : List (Nat × TI) := [(117, { size := 1, bytes := 8, agg := false, zero := [.sc (.pointer none)], kind := .ptr 119 }), (119, { size := 2, bytes := 32, agg := true, zero := [.sc (.pointer none), .sl []], kind := .struct [(0, 1, false), (1, 1, false)] }), (105, { size := 1, bytes := 24, agg := false, zero := [.sl []], kind := .slice 5 }), (9, { size := 1, bytes := 16, agg := false, zero := [.sc (.string "".toByteArray)], kind := .str }), (5, { size := 1, bytes := 1, agg := false, zero := [.sc (.int .u8 0)], kind := .int .u8 })]
noncomputable def C0_bld_WriteString : Cfg := mkC ty_bld_WriteString [] [] [89] [] [4,5] [] []
noncomputable def C_bld_WriteString : Cfg := mkI C0_bld_WriteString [(89, I_bld_copyCheck)]
theorem E0_bld_WriteString : Env1 Go.Proofs.Try.prog C0_bld_WriteString := mkC_ok (by kernel_rfl) trivial (by kernel_rfl)
theorem E_bld_WriteString : Env1 Go.Proofs.Try.prog C_bld_WriteString := mkI_ok E0_bld_WriteString (⟨⟨en_bld_copyCheck, ic_bld_copyCheck⟩, trivial⟩)
theorem C_bld_WriteString_ty : (C_bld_WriteString).ty = ty_bld_WriteString := rfl
theorem C_bld_WriteString_eqs : (C_bld_WriteString).eqs = [] := rfl
theorem C_bld_WriteString_call : (C_bld_WriteString).call = fun f => (([] : List (Nat × (List DA → Option (List RV)))).lookup f).getD fun _ => none := rfl
theorem C_bld_WriteString_calls : (C_bld_WriteString).calls = [] := rfl
theorem C_bld_WriteString_scal : (C_bld_WriteString).scal = [89] := rfl
theorem C_bld_WriteString_owns : (C_bld_WriteString).owns = [] := rfl
theorem C_bld_WriteString_vars : (C_bld_WriteString).vars = [4,5] := rfl
theorem C_bld_WriteString_ores : (C_bld_WriteString).ores = [] := rfl
theorem C_bld_WriteString_flags : (C_bld_WriteString).flags = [] := rfl
theorem C_bld_WriteString_pins : (C_bld_WriteString).pins = [] := rfl
theorem C_bld_WriteString_inls : (C_bld_WriteString).inls = [89] := rfl
theorem C_bld_WriteString_inl : (C_bld_WriteString).inl = fun f => (([(89, I_bld_copyCheck)] : List (Nat × (List V1 → Objs → Option (TV × Objs)))).lookup f).getD fun _ _ => none := rfl
def T_bld_WriteString : List (Nat × LoopA) := []
noncomputable def I_bld_WriteString : List V1 → Objs → Option (TV × Objs) := Wi C_bld_WriteString T_bld_WriteString [] Go.Proofs.Try.f85
theorem ic_bld_WriteString : InlC Go.Proofs.Try.prog 85 I_bld_WriteString := inlC_of_W E_bld_WriteString Go.Proofs.Try.func85 rfl rfl
/-! ### (*strings.Builder).String -/
theorem en_bld_String : Enters Go.Proofs.Try.prog 87 := ⟨_, Go.Proofs.Try.func87, rfl, rfl⟩
def ty_bld_String : List (Nat × TI) := [(119, { size := 2, bytes := 32, agg := true, zero := [.sc (.pointer none), .sl []], kind := .struct [(0, 1, false), (1, 1, false)] }), (105, { size := 1, bytes := 24, agg := false, zero := [.sl []], kind := .slice 5 }), (125, { size := 1, bytes := 8, agg := false, zero := [.sc (.pointer none)], kind := .ptr 5 }), (3, { size := 1, bytes := 8, agg := false, zero := [.sc (.int .i64 0)], kind := .int .i64 }), (5, { size := 1, bytes := 1, agg := false, zero := [.sc (.int .u8 0)], kind := .int .u8 })]
noncomputable def C_bld_String : Cfg := mkC ty_bld_String [] [] [] [] [2] [] [(1, [true, true, true, true, true, true, true, true, true, true, false, true])]
theorem E_bld_String : Env1 Go.Proofs.Try.prog C_bld_String := mkC_ok (by kernel_rfl) trivial (by kernel_rfl)
theorem C_bld_String_ty : (C_bld_String).ty = ty_bld_String := rfl
theorem C_bld_String_eqs : (C_bld_String).eqs = [] := rfl
theorem C_bld_String_call : (C_bld_String).call = fun f => (([] : List (Nat × (List DA → Option (List RV)))).lookup f).getD fun _ => none := rfl
theorem C_bld_String_calls : (C_bld_String).calls = [] := rfl
theorem C_bld_String_scal : (C_bld_String).scal = [] := rfl
theorem C_bld_String_owns : (C_bld_String).owns = [] := rfl
theorem C_bld_String_vars : (C_bld_String).vars = [2] := rfl
theorem C_bld_String_ores : (C_bld_String).ores = [] := rfl
theorem C_bld_String_flags : (C_bld_String).flags = [(1, [true, true, true, true, true, true, true, true, true, true, false, true])] := rfl
theorem C_bld_String_pins : (C_bld_String).pins = [] := rfl
theorem C_bld_String_inls : (C_bld_String).inls = [] := rfl
def T_bld_String : List (Nat × LoopA) := []
noncomputable def I_bld_String : List V1 → Objs → Option (TV × Objs) := Wi C_bld_String T_bld_String [] Go.Proofs.Try.f87
theorem ic_bld_String : InlC Go.Proofs.Try.prog 87 I_bld_String := inlC_of_W E_bld_String Go.Proofs.Try.func87 rfl rfl

end Go.Vm

/- What Go functions come to, as Lean functions: each with its contract. -/
set_option linter.unusedVariables false
set_option linter.unusedSimpArgs false
namespace Go.Vm
open Go Go.RowKit

/-! ### hopper/txn.Encode -/
theorem en_txn_Encode : Enters Go.Proofs.Try.prog 80 := ⟨_, Go.Proofs.Try.func80, rfl, rfl⟩
def ty_txn_Encode : List (Nat × TI) := [(34, { size := 6, bytes := 56, agg := true, zero := [.sc (.int .i64 0), .sc (.int .i64 0), .sc (.int .i64 0), .sc (.int .i64 0), .sc (.int .i64 0), .sc (.string "".toByteArray)], kind := .struct [(0, 1, false), (1, 1, false), (2, 1, false), (3, 1, false), (4, 1, false), (5, 1, false)] }), (119, { size := 2, bytes := 32, agg := true, zero := [.sc (.pointer none), .sl []], kind := .struct [(0, 1, false), (1, 1, false)] }), (9, { size := 1, bytes := 16, agg := false, zero := [.sc (.string "".toByteArray)], kind := .str }), (3, { size := 1, bytes := 8, agg := false, zero := [.sc (.int .i64 0)], kind := .int .i64 }), (100, { size := 5, bytes := 40, agg := true, zero := [.sc (.int .i64 0), .sc (.int .i64 0), .sc (.int .i64 0), .sc (.int .i64 0), .sc (.int .i64 0)], kind := .array 5 3 })]
noncomputable def C0_txn_Encode : Cfg := mkC ty_txn_Encode [] [(58, M_txn_Check), (77, M_codec_Number), (86, M_codec_Text)] [58, 77, 86, 87] [(4, [(1, 5, 1)])] [1,4,21,22] [] []
noncomputable def C_txn_Encode : Cfg := mkI C0_txn_Encode [(85, I_bld_WriteString), (87, I_bld_String)]
theorem E0_txn_Encode : Env1 Go.Proofs.Try.prog C0_txn_Encode := mkC_ok (by kernel_rfl) (⟨⟨en_txn_Check, cc_txn_Check⟩, ⟨⟨en_codec_Number, cc_codec_Number⟩, ⟨⟨en_codec_Text, cc_codec_Text⟩, trivial⟩⟩⟩) (by kernel_rfl)
theorem E_txn_Encode : Env1 Go.Proofs.Try.prog C_txn_Encode := mkI_ok E0_txn_Encode (⟨⟨en_bld_WriteString, ic_bld_WriteString⟩, ⟨⟨en_bld_String, ic_bld_String⟩, trivial⟩⟩)
theorem C_txn_Encode_ty : (C_txn_Encode).ty = ty_txn_Encode := rfl
theorem C_txn_Encode_eqs : (C_txn_Encode).eqs = [] := rfl
theorem C_txn_Encode_call : (C_txn_Encode).call = fun f => (([(58, M_txn_Check), (77, M_codec_Number), (86, M_codec_Text)] : List (Nat × (List DA → Option (List RV)))).lookup f).getD fun _ => none := rfl
theorem C_txn_Encode_calls : (C_txn_Encode).calls = [58, 77, 86] := rfl
theorem C_txn_Encode_scal : (C_txn_Encode).scal = [58, 77, 86, 87] := rfl
theorem C_txn_Encode_owns : (C_txn_Encode).owns = [(4, [(1, 5, 1)])] := rfl
theorem C_txn_Encode_vars : (C_txn_Encode).vars = [1,4,21,22] := rfl
theorem C_txn_Encode_ores : (C_txn_Encode).ores = [] := rfl
theorem C_txn_Encode_flags : (C_txn_Encode).flags = [] := rfl
theorem C_txn_Encode_pins : (C_txn_Encode).pins = [] := rfl
theorem C_txn_Encode_inls : (C_txn_Encode).inls = [85, 87] := rfl
theorem C_txn_Encode_inl : (C_txn_Encode).inl = fun f => (([(85, I_bld_WriteString), (87, I_bld_String)] : List (Nat × (List V1 → Objs → Option (TV × Objs)))).lookup f).getD fun _ _ => none := rfl
def T_txn_Encode : List (Nat × LoopA) := [(0, .un)]
set_option maxHeartbeats 20000000 in
set_option maxRecDepth 100000 in
noncomputable def pk_txn_Encode : { F : Tx → Option (ByteArray × Bool) // CallC Go.Proofs.Try.prog 80 (con1 (eT ceTx) (fun x0 => (F x0).map (res2 rS rB).enc)) } :=
  ⟨_, cc1 E_txn_Encode Go.Proofs.Try.func80 rfl rfl (T := T_txn_Encode) (G := []) (r := (res2 rS rB)) fun x0 => by
    unfold Wf
    simp (maxSteps := 10000000) (implicitDefEqProofs := false) [-evOps, -evOne, -evOp, -evIndexAddr, -evIndex, -evPick, -binV, -evLoad, -evStore, -loadC, -callV, -nilC, -storeC, -toDVs, -toDAs, -resRs, List.lookup, List.replicate, List.range_succ, ty_txn_Encode, C_txn_Encode_ty, C_txn_Encode_eqs, C_txn_Encode_call, C_txn_Encode_calls, C_txn_Encode_scal, C_txn_Encode_owns, C_txn_Encode_vars, C_txn_Encode_ores, C_txn_Encode_flags, C_txn_Encode_pins, C_txn_Encode_inls, C_txn_Encode_inl, T_txn_Encode, Go.Proofs.Try.f80, M_txn_Check, M_codec_Number, M_codec_Text, iC, uC, bC, sC, Tx.c, wrap64, Nat.add_assoc, ty_bld_WriteString, C_bld_WriteString_ty, C_bld_WriteString_eqs, C_bld_WriteString_call, C_bld_WriteString_calls, C_bld_WriteString_scal, C_bld_WriteString_owns, C_bld_WriteString_vars, C_bld_WriteString_ores, C_bld_WriteString_flags, C_bld_WriteString_pins, C_bld_WriteString_inls, C_bld_WriteString_inl, T_bld_WriteString, Go.Proofs.Try.f85, I_bld_copyCheck, mkI, I_bld_WriteString, Wi, ty_bld_String, C_bld_String_ty, C_bld_String_eqs, C_bld_String_call, C_bld_String_calls, C_bld_String_scal, C_bld_String_owns, C_bld_String_vars, C_bld_String_ores, C_bld_String_flags, C_bld_String_pins, C_bld_String_inls, T_bld_String, Go.Proofs.Try.f87, I_bld_String, mkI]
    try rfl⟩
noncomputable def F_txn_Encode : Tx → Option (ByteArray × Bool) := pk_txn_Encode.1
noncomputable def M_txn_Encode : List DA → Option (List RV) := con1 (eT ceTx) (fun x0 => (F_txn_Encode x0).map (res2 rS rB).enc)
theorem cc_txn_Encode : CallC Go.Proofs.Try.prog 80 M_txn_Encode := pk_txn_Encode.2

end Go.Vm

/- slices.Insert of one api.Tx, in place. -/
set_option linter.unusedVariables false
set_option linter.unusedSimpArgs false
namespace Go.Vm
open Go Go.RowKit Go.Shelf Go.Proofs

theorem run_overlaps_own {P : Program} (w : World) (tS tR e : TypeId) (ht : P.underlying tS = some (.slice e)) (size : Nat) (hz : ∀ w, (Go.sizeOf e).run P w = .ok size w)
    (a b : Addr) (la ca lb cb : Nat) (hne : a.block ≠ b.block) {tA tB : TypeId} {fA : Nat × Nat} {cA cB : Array Value}
    (ha : w.heap[a.block]? = some (.cells cA tA fA)) (hA : cA.size ≠ 0) (hb : w.heap[b.block]? = some (.cells cB tB (0, 0))) :
    (Extern.SlicesOverlaps.overlaps #[tS, tS] #[tR] #[.slice (some a) la ca, .slice (some b) lb cb]).run P w = .ok (.bool false) w := by
  have hsa : w.shape? a.block = some (tA, cA.size) := by simp [World.shape?, ha]
  have hsb : w.shape? b.block = some (tB, cB.size) := by simp [World.shape?, hb]
  have hfb : ∀ k s, w.frozen? ⟨b.block, k, s⟩ = false := fun k s => by simp [World.frozen?, hb]
  have hfb0 : w.frozen? b = false := hfb b.off b.spot
  have hnb : (a.block != b.block) = true := by simpa using hne
  have hnb' : (a.block == b.block) = false := by simpa using hne
  change Sem.run P (α := Value) (do
    let some t := (#[tS, tS] : Array TypeId)[0]? | stuck "slices.overlaps: no parameter types"
    let .slice elem ← underlying t | stuck "slices.overlaps: slice type expected"
    let size ← sizeOf elem
    match (some a : Option Addr), (some b : Option Addr) with
    | some a, some b =>
      if la = 0 ∨ lb = 0 ∨ size = 0 then pure (Value.bool false)
      else if a.block != b.block && (← frozen a) && (← frozen b) then unsupported .addressObserved
      else do
        if a.block != b.block then do
          noView a; noView b
          if ← mayBeOne a b then return Value.bool ((← choose (.extern "sameAddr.stringBytes" 2)) == 1)
        pure (Value.bool (a.block == b.block && a.off < b.off + lb * size && b.off < a.off + la * size))
    | _, _ => pure (Value.bool false)) w = _
  by_cases h0 : la = 0 ∨ lb = 0 ∨ size = 0
  · simp [run_underlying ht, hz, h0]
  · cases hk : cA.size with
    | zero => exact absurd hk hA
    | succ k =>
      rw [hk] at hsa
      cases hfa : w.frozen? a <;> cases hfe : w.frozen? { block := a.block, off := k + 1 } <;>
        simp [run_underlying ht, hz, h0, hnb, hnb', frozen, noView, viewAt, mayBeOne, stringish, shape, Sem.run, hsa, hsb, hfa, hfb0, hfe, hfb]

theorem run_copy_rows {P : Program} (w : World) (dT sT ty elem : TypeId) (s g o dLen dCap : Nat) (a : Addr) (sLen sCap : Nat) (cur : Array Value) (t : TypeId) (cs : List Value)
    (hu : P.underlying dT = some (.slice elem)) (hs : ∀ w, (Go.sizeOf elem).run P w = .ok s w)
    (hg : w.heap[g]? = some (.cells cur t (0, 0))) (hn : cs.length = Nat.min sLen dLen * s)
    (hsrc : ∀ j v, cs[j]? = some v → w.cell? (a.add j) = some v) (hfit : o + cs.length ≤ cur.size) (h1 : ∀ v ∈ cs, v.oneCell' = true) :
    (Builtin.copy_ #[dT, sT] ty #[.slice (some ⟨g, o, none⟩) dLen dCap, .slice (some a) sLen sCap]).run P w =
      .ok (goInt (Nat.min sLen dLen)) (w.setRow g (cur.toList.take o ++ cs ++ cur.toList.drop (o + cs.length)).toArray) := by
  have hf := run_firstCells_some (P := P) w s (Nat.min sLen dLen) a sLen sCap cs hn hsrc
  have hst := run_storeCells_at P g o t cs 0 cur w hg (by simpa using hfit) h1
  simp only [Nat.add_zero] at hst
  simp [Builtin.copy_, run_underlying hu, Builtin.lenOf, hs, hf, hst]

set_option maxHeartbeats 4000000 in
set_option maxRecDepth 100000 in
/-- There is room: in place. -/
theorem ins_shift (g n c i vb vo vc : Nat) (cur : Array Value) (news : List Value) (w : World) (hi : i < n) (hroom : n + 1 ≤ c) (hc : c ≤ maxLen) (hg : w.heap[g]? = some (.cells cur 34 (0, 0))) (hcs : cur.size = c * 6) (hvb : vb ≠ g)
    {tA : TypeId} {fA : Nat × Nat} {cA : Array Value} (hv : w.heap[vb]? = some (.cells cA tA fA)) (hA : cA.size ≠ 0) (hnl : news.length = 6) (hnews : ∀ j u, news[j]? = some u → w.cell? ⟨vb, vo + j, none⟩ = some u)
    (h1c : ∀ v ∈ (cur.toList.drop (i * 6)).take ((n - i) * 6), v.oneCell' = true) (h1v : ∀ v ∈ news, v.oneCell' = true) :
    Calls Go.Proofs.Try.prog 72 #[.slice (some ⟨g, 0, none⟩) n c, .int .i64 i, .slice (some ⟨vb, vo, none⟩) 1 vc] w fun e w' => e = .returned (.slice (some ⟨g, 0, none⟩) (n + 1) c) ∧
      w' = w.drew.setRow g (cur.toList.take (i * 6) ++ news ++ (cur.toList.drop (i * 6)).take ((n - i) * 6) ++ cur.toList.drop ((n + 1) * 6)).toArray := by
  have hc63 : c ≤ 9223372036854775807 := by simp only [maxLen] at hc; omega
  have hov : ∀ lb cb, (callFunc 82 #[.slice (some ⟨vb, vo, none⟩) 1 vc, .slice (some ⟨g, (i + 1) * 6, none⟩) lb cb]).run Go.Proofs.Try.prog w = .ok (.value (.bool false)) w := fun lb cb => by
    rw [run_callFunc_extern Go.Proofs.Try.func82 (by kernel_rfl) (by kernel_rfl) (by kernel_rfl) (e := Extern.SlicesOverlaps.overlaps #[24, 24] #[4]) (by kernel_rfl),
      run_overlaps_own w 24 4 34 Go.Proofs.Try.underlying24 6 Go.Proofs.Try.sizeOf34 ⟨vb, vo, none⟩ ⟨g, (i + 1) * 6, none⟩ 1 vc lb cb hvb hv hA hg]
    rfl
  have hcl : cur.toList.length = c * 6 := by simpa using hcs
  have hgc : ∀ (W : World) (X : Array Value), W.heap[g]? = some (.cells X 34 (0, 0)) → ∀ j, W.cell? ⟨g, j, none⟩ = X[j]? := fun W X h j => by simp [World.cell?, h]
  obtain ⟨CS, hCS⟩ : ∃ CS, CS = (cur.toList.drop (i * 6)).take ((n - i) * 6) := ⟨_, rfl⟩
  rw [← hCS] at h1c ⊢
  have hCl : CS.length = (n - i) * 6 := by rw [hCS, List.length_take, List.length_drop, hcl]; omega
  obtain ⟨R1, hR1⟩ : ∃ R1 : Array Value, R1 = (cur.toList.take ((i + 1) * 6) ++ CS ++ cur.toList.drop ((i + 1) * 6 + CS.length)).toArray := ⟨_, rfl⟩
  have hR1s : R1.size = c * 6 := by
    rw [hR1]; simp only [List.size_toArray, List.length_append, List.length_take, List.length_drop, hcl, hCl]; omega
  have hcp1 : ∀ ty dc sc, (Builtin.copy_ #[24, 24] ty #[.slice (some ⟨g, (i + 1) * 6, none⟩) (n - i) dc, .slice (some ⟨g, i * 6, none⟩) (n + 1 - i) sc]).run Go.Proofs.Try.prog w.drew = .ok (goInt (n - i : Nat)) (w.drew.setRow g R1) := fun ty dc sc => by
    have hmin : Nat.min (n + 1 - i) (n - i) = n - i := by simp only [Nat.min_def]; split <;> omega
    have := run_copy_rows (P := Go.Proofs.Try.prog) w.drew 24 24 ty 34 6 g ((i + 1) * 6) (n - i) dc ⟨g, i * 6, none⟩ (n + 1 - i) sc cur 34 CS Go.Proofs.Try.underlying24 Go.Proofs.Try.sizeOf34 hg (by rw [hmin, hCl])
      (fun j v hj => by
        rw [Addr.add_lit, hgc w.drew cur hg]
        rw [hCS, List.getElem?_take] at hj
        split at hj
        · rw [List.getElem?_drop] at hj; simpa using hj
        · cases hj) (by rw [hCl]; omega) h1c
    rw [hmin, ← hR1] at this
    exact this
  obtain ⟨W1, hW1⟩ : ∃ W1, W1 = w.drew.setRow g R1 := ⟨_, rfl⟩
  have hW1g : W1.heap[g]? = some (.cells R1 34 (0, 0)) := by rw [hW1]; exact setRow_heap w.drew g cur R1 34 (0, 0) hg
  rw [← hW1] at hcp1
  have hcp2 : ∀ ty dc, (Builtin.copy_ #[24, 24] ty #[.slice (some ⟨g, i * 6, none⟩) (n + 1 - i) dc, .slice (some ⟨vb, vo, none⟩) 1 vc]).run Go.Proofs.Try.prog W1 = .ok (goInt (1 : Nat)) (W1.setRow g (R1.toList.take (i * 6) ++ news ++ R1.toList.drop (i * 6 + news.length)).toArray) := fun ty dc => by
    have hmin : Nat.min 1 (n + 1 - i) = 1 := by simp only [Nat.min_def]; split <;> omega
    have := run_copy_rows (P := Go.Proofs.Try.prog) W1 24 24 ty 34 6 g (i * 6) (n + 1 - i) dc ⟨vb, vo, none⟩ 1 vc R1 34 news Go.Proofs.Try.underlying24 Go.Proofs.Try.sizeOf34 hW1g (by rw [hmin, hnl])
      (fun j v hj => by
        rw [Addr.add_lit, hW1]
        have : (w.drew.setRow g R1).heap[vb]? = w.drew.heap[vb]? := setRow_other w.drew g vb _ hvb
        exact (World.cell?_of_block (w := w.drew) (a := ⟨vb, vo + j, none⟩) this).trans (hnews j v hj)) (by rw [hnl]; omega) h1v
    rw [hmin] at this
    exact this
  have hfin : W1.setRow g (R1.toList.take (i * 6) ++ news ++ R1.toList.drop (i * 6 + news.length)).toArray = w.drew.setRow g (cur.toList.take (i * 6) ++ news ++ CS ++ cur.toList.drop ((n + 1) * 6)).toArray := by
    rw [hW1, setRow_setRow]
    congr 2
    have e1 : R1.toList = cur.toList.take ((i + 1) * 6) ++ (CS ++ cur.toList.drop ((n + 1) * 6)) := by
      rw [hR1, List.append_assoc, hCl, ← Nat.add_mul, show i + 1 + (n - i) = n + 1 by omega]
    have hl : (cur.toList.take ((i + 1) * 6)).length = i * 6 + 6 := by rw [List.length_take, hcl]; omega
    rw [e1, hnl, List.take_append_of_le_length (by omega), List.take_take, Nat.min_eq_left (by omega), ← hl, List.drop_left]
    simp only [List.append_assoc]
  clear hW1 hR1 hCS
  have hz1 : ¬ ((1 : Int) = 0) := by omega
  have hz2 : ¬ ((i : Int) = (n : Int)) := by omega
  have hw1 : IntKind.i64.wrap ((i : Int) + 1) = (i : Int) + 1 := by rw [IntKind.wrap_i64]; omega
  have hb1 : (0 : Int) ≤ (i : Int) + 1 := by omega
  have hin : i ≤ n := by omega
  have htn : ((i : Int) + 1).toNat = i + 1 := by omega
  have hb2 : ¬ (c = i + 1) := by omega
  have hb3 : (i : Int) ≤ (n : Int) + 1 := by omega
  have hb4 : ¬ (c = i) := by omega
  have mixed : Go.Proofs.Try.prog.follows .mixedOrders = true := by kernel_rfl
  go_enter Go.Proofs.Try.func72, Go.Proofs.Try.ntmps72
  go_wp2_with (simp only [hov])
  go_region_law_o (refine step_copy_runI rfl _ _ 24 24 rfl _ _ (by simp [Act.eval, Act.put]) (by simp [Act.eval, Act.put]) (hcp1 _ _ _) ?_)
  go_wp2_with (at_builtin; refine wpList_copy_runI _ rfl _ _ 24 24 rfl _ _ rfl rfl (hcp2 _ _) ?_)
  go_ret
  exact ⟨rfl, by rw [← hfin, List.append_assoc, hnl]⟩

set_option maxHeartbeats 4000000 in
set_option maxRecDepth 100000 in
/-- There is no room: a new row. -/
theorem ins_grow (g n c i vb vo vc : Nat) (cur : Array Value) (news : List Value) (w : World) (hi : i < n) (hnc : n ≤ c) (hroom : c < n + 1) (hbig : (n + 1) * 56 ≤ 140737488355328) (hg : w.heap[g]? = some (.cells cur 34 (0, 0))) (hcs : cur.size = c * 6)
    (hvw : vb < w.heap.size) (hnl : news.length = 6) (hnews : ∀ j u, news[j]? = some u → w.cell? ⟨vb, vo + j, none⟩ = some u)
    (h1c : ∀ v ∈ (cur.toList.drop (i * 6)).take ((n - i) * 6), v.oneCell' = true) (h1v : ∀ v ∈ news, v.oneCell' = true) :
    Calls Go.Proofs.Try.prog 72 #[.slice (some ⟨g, 0, none⟩) n c, .int .i64 i, .slice (some ⟨vb, vo, none⟩) 1 vc] w fun e w' => ∃ G R, e = .returned (.slice (some ⟨w.heap.size, 0, none⟩) (n + 1) G) ∧ n + 1 ≤ G ∧ G ≤ maxLen ∧
      w.grownBy w' (some g) ∧ w'.heap[w.heap.size]? = some (.cells R 34 (0, 0)) ∧ R.size = G * 6 ∧ R.toList.take ((n + 1) * 6) = cur.toList.take (i * 6) ++ news ++ (cur.toList.drop (i * 6)).take ((n - i) * 6) := by
  have hcl : cur.toList.length = c * 6 := by simpa using hcs
  obtain ⟨i0, hi0, hz0, hzs, hzb⟩ := info_parts (show (Go.Proofs.Try.prog.info? 34).map (fun i => (i.zero, i.size, i.bytes)) = some (some (.agg #[.int .i64 0, .int .i64 0, .int .i64 0, .int .i64 0, .int .i64 0, .string { data := #[] }]), 6, 56) by kernel_rfl)
  have hgc : ∀ (W : World) (b : Nat) (X : Array Value) (t : TypeId) (f : Nat × Nat), W.heap[b]? = some (.cells X t f) → ∀ j, W.cell? ⟨b, j, none⟩ = X[j]? := fun W b X t f h j => by simp [World.cell?, h]
  have hgw : g < w.heap.size := (Array.getElem?_eq_some_iff.1 hg).1
  have hik : i + (n + 1 - i) = n + 1 := by omega
  have hkk : (n : Int) + 1 - (i : Int) = ((n + 1 - i : Nat) : Int) := by omega
  have hold : (Builtin.firstCells i0.size i (.slice (some ⟨g, 0, none⟩) i c)).run Go.Proofs.Try.prog w.drew = .ok (cur.toList.take (i * 6)).toArray w.drew := by
    rw [hzs]
    exact run_firstCells_some w.drew 6 i ⟨g, 0, none⟩ i c (cur.toList.take (i * 6)) (by rw [List.length_take, hcl]; omega) (fun j v hj => by
      rw [Addr.add_lit, hgc w.drew g cur _ _ hg]
      rw [List.getElem?_take] at hj
      split at hj
      · simpa using hj
      · cases hj)
  obtain ⟨G, hG⟩ : ∃ G, G = grownCap w (n + 1) c 34 := ⟨_, rfl⟩
  obtain ⟨R0, hR0⟩ : ∃ R0 : Array Value, R0 = (cur.toList.take (i * 6)).toArray ++ Builtin.zeroCells (Value.agg #[.int .i64 0, .int .i64 0, .int .i64 0, .int .i64 0, .int .i64 0, .string { data := #[] }]).cells (n + 1 - i) ++ Builtin.zeroCells (Value.agg #[.int .i64 0, .int .i64 0, .int .i64 0, .int .i64 0, .int .i64 0, .string { data := #[] }]).cells (G - (n + 1)) := ⟨_, rfl⟩
  have hrz : ∀ ty, (Builtin.append_ #[24, 3] ty #[.slice (some ⟨g, 0, none⟩) i c, .int .i64 ((n : Int) + 1 - (i : Int))]).run Go.Proofs.Try.prog w = .ok (.slice (some ⟨w.heap.size, 0, none⟩) (n + 1) G) (w.drew.alloc (.cells R0 34)) := fun ty => by
    have h := Lib.run_append_grow_zeros w 24 3 ty 34 i0 _ .i64 .i64 Go.Proofs.Try.underlying24 Go.Proofs.Try.underlying3 hi0 hz0 (some ⟨g, 0, none⟩) i c _ hold (n + 1 - i) (by omega) (by omega) (by omega) (by omega) (by rw [hzb]; omega) (by rw [hzb, hik]; exact growslice_fits hroom hbig)
    rw [hik] at h
    rw [hkk, hG, hR0, hG]
    exact h
  have hGn : n + 1 ≤ G := by rw [hG]; exact grownCap_ge w _ _ _
  have hGm : G ≤ maxLen := by rw [hG]; exact grownCap_le_maxLen w (n + 1) c 34 (by unfold maxLen; omega)
  have hG63 : G ≤ 9223372036854775807 := by unfold maxLen at hGm; omega
  have hR0s : R0.size = G * 6 := by
    rw [hR0]
    have hz6 : (Value.agg #[.int .i64 0, .int .i64 0, .int .i64 0, .int .i64 0, .int .i64 0, .string { data := #[] }]).cells.size = 6 := rfl
    simp only [Array.size_append, List.size_toArray, size_zeroCells, hz6, List.length_take, hcl]
    omega
  have hR0t : R0.toList.take (i * 6) = cur.toList.take (i * 6) := by
    rw [hR0]
    simp only [Array.toList_append, List.append_assoc]
    have hl : (cur.toList.take (i * 6)).length = i * 6 := by rw [List.length_take, hcl]; omega
    rw [List.take_append_of_le_length (by rw [hl]; exact Nat.le_refl _), List.take_of_length_le (by rw [hl]; exact Nat.le_refl _)]
  clear hG hR0
  obtain ⟨W1, hW1⟩ : ∃ W1, W1 = w.drew.alloc (.cells R0 34) := ⟨_, rfl⟩
  rw [← hW1] at hrz
  have hW1N : W1.heap[w.heap.size]? = some (.cells R0 34 (0, 0)) := by rw [hW1]; exact heap_alloc_new w.drew _
  have hW1o : ∀ b, b < w.heap.size → W1.heap[b]? = w.heap[b]? := fun b hb => by rw [hW1]; exact heap_alloc_old w.drew _ hb
  obtain ⟨CS, hCS⟩ : ∃ CS, CS = (cur.toList.drop (i * 6)).take ((n - i) * 6) := ⟨_, rfl⟩
  rw [← hCS] at h1c ⊢
  have hCl : CS.length = (n - i) * 6 := by rw [hCS, List.length_take, List.length_drop, hcl]; omega
  obtain ⟨R1, hR1⟩ : ∃ R1 : Array Value, R1 = (R0.toList.take (i * 6) ++ news ++ R0.toList.drop (i * 6 + news.length)).toArray := ⟨_, rfl⟩
  have hR0l : R0.toList.length = G * 6 := by simpa using hR0s
  have hR1s : R1.size = G * 6 := by
    rw [hR1]; simp only [List.size_toArray, List.length_append, List.length_take, List.length_drop, hR0l, hnl]; omega
  have hcpA : ∀ ty dc, (Builtin.copy_ #[24, 24] ty #[.slice (some ⟨w.heap.size, i * 6, none⟩) (n + 1 - i) dc, .slice (some ⟨vb, vo, none⟩) 1 vc]).run Go.Proofs.Try.prog W1 = .ok (goInt (1 : Nat)) (W1.setRow w.heap.size R1) := fun ty dc => by
    have hmin : Nat.min 1 (n + 1 - i) = 1 := by simp only [Nat.min_def]; split <;> omega
    have := run_copy_rows (P := Go.Proofs.Try.prog) W1 24 24 ty 34 6 w.heap.size (i * 6) (n + 1 - i) dc ⟨vb, vo, none⟩ 1 vc R0 34 news Go.Proofs.Try.underlying24 Go.Proofs.Try.sizeOf34 hW1N (by rw [hmin, hnl])
      (fun j v hj => by
        rw [Addr.add_lit]
        exact (World.cell?_of_block (w := w) (a := ⟨vb, vo + j, none⟩) (hW1o vb hvw)).trans (hnews j v hj)) (by rw [hnl]; omega) h1v
    rw [hmin, ← hR1] at this
    exact this
  obtain ⟨W2, hW2⟩ : ∃ W2, W2 = W1.setRow w.heap.size R1 := ⟨_, rfl⟩
  rw [← hW2] at hcpA
  have hW2N : W2.heap[w.heap.size]? = some (.cells R1 34 (0, 0)) := by rw [hW2]; exact setRow_heap W1 w.heap.size R0 R1 34 (0, 0) hW1N
  have hW2o : ∀ b, b < w.heap.size → W2.heap[b]? = w.heap[b]? := fun b hb => by rw [hW2]; exact (setRow_other W1 w.heap.size b _ (by omega)).trans (hW1o b hb)
  have hcpB : ∀ ty dc sc, (Builtin.copy_ #[24, 24] ty #[.slice (some ⟨w.heap.size, (i + 1) * 6, none⟩) (n - i) dc, .slice (some ⟨g, i * 6, none⟩) (n - i) sc]).run Go.Proofs.Try.prog W2.drew = .ok (goInt (n - i : Nat)) (W2.drew.setRow w.heap.size (R1.toList.take ((i + 1) * 6) ++ CS ++ R1.toList.drop ((i + 1) * 6 + CS.length)).toArray) := fun ty dc sc => by
    have hmin : Nat.min (n - i) (n - i) = n - i := Nat.min_self _
    have := run_copy_rows (P := Go.Proofs.Try.prog) W2.drew 24 24 ty 34 6 w.heap.size ((i + 1) * 6) (n - i) dc ⟨g, i * 6, none⟩ (n - i) sc R1 34 CS Go.Proofs.Try.underlying24 Go.Proofs.Try.sizeOf34 hW2N (by rw [hmin, hCl])
      (fun j v hj => by
        rw [Addr.add_lit, hgc W2.drew g cur 34 (0, 0) ((hW2o g hgw).trans hg)]
        rw [hCS, List.getElem?_take] at hj
        split at hj
        · rw [List.getElem?_drop] at hj; simpa using hj
        · cases hj) (by rw [hCl]; omega) h1c
    rw [hmin] at this
    exact this
  obtain ⟨R2, hR2⟩ : ∃ R2 : Array Value, R2 = (R1.toList.take ((i + 1) * 6) ++ CS ++ R1.toList.drop ((i + 1) * 6 + CS.length)).toArray := ⟨_, rfl⟩
  rw [← hR2] at hcpB
  have hR1l : R1.toList.length = G * 6 := by simpa using hR1s
  have hend : ∀ w', w' = W2.drew.setRow w.heap.size R2 → w.grownBy w' (some g) ∧ w'.heap[w.heap.size]? = some (.cells R2 34 (0, 0)) ∧ R2.size = G * 6 ∧ R2.toList.take ((n + 1) * 6) = cur.toList.take (i * 6) ++ news ++ CS := by
    rintro w' rfl
    refine ⟨?_, setRow_heap W2.drew w.heap.size R1 R2 34 (0, 0) hW2N, ?_, ?_⟩
    · subst hW2; subst hW1
      exact ⟨rfl, rfl, rfl, by simp, fun k hk _ => (setRow_other _ w.heap.size k _ (by omega)).trans (hW2o k hk)⟩
    · rw [hR2]; simp only [List.size_toArray, List.length_append, List.length_take, List.length_drop, hR1l, hCl]; omega
    · have hl0 : (R0.toList.take (i * 6)).length = i * 6 := by rw [List.length_take, hR0l]; omega
      have e1 : R1.toList.take ((i + 1) * 6) = cur.toList.take (i * 6) ++ news := by
        rw [hR1, hR0t, show (i + 1) * 6 = (cur.toList.take (i * 6) ++ news).length by rw [List.length_append, List.length_take, hcl, hnl]; omega]
        simp only []
        exact List.take_left
      rw [hR2, e1, show (n + 1) * 6 = (cur.toList.take (i * 6) ++ news ++ CS).length by rw [List.length_append, List.length_append, List.length_take, hcl, hnl, hCl]; omega]
      exact List.take_left
  clear hW2 hW1 hR1 hR2 hCS hkk hik hold
  have hz1 : ¬ ((1 : Int) = 0) := by omega
  have hz2 : ¬ ((i : Int) = (n : Int)) := by omega
  have hz3 : (c : Int) < (n : Int) + 1 := by omega
  have hw1 : IntKind.i64.wrap ((i : Int) + 1) = (i : Int) + 1 := by rw [IntKind.wrap_i64]; omega
  have hb1 : (0 : Int) ≤ (i : Int) + 1 := by omega
  have hin : i ≤ n := by omega
  have htn : ((i : Int) + 1).toNat = i + 1 := by omega
  have hGi : ¬ (G = i) := by omega
  have hGim : ¬ (G = i + 1) := by omega
  have hci : ¬ (c = i) := by omega
  have hb3 : (i : Int) ≤ (n : Int) := by omega
  have mixed : Go.Proofs.Try.prog.follows .mixedOrders = true := by kernel_rfl
  go_enter Go.Proofs.Try.func72, Go.Proofs.Try.ntmps72
  go_wp2_with (first
    | (at_builtin; refine Lib.wpList_append_run _ rfl _ _ _ _ rfl _ _ rfl rfl _ _ (hrz _) ?_)
    | (at_builtin; refine wpList_copy_runI _ rfl _ _ 24 24 rfl _ _ rfl rfl (hcpA _ _) ?_))
  go_region_law_o (refine step_copy_runI rfl _ _ 24 24 rfl _ _ (by simp [Act.eval, Act.put]) (by simp [Act.eval, Act.put]) (hcpB _ _ _) ?_)
  go_wp2
  go_ret
  exact ⟨G, R2, rfl, hGn, hGm, hend _ rfl⟩

set_option maxHeartbeats 4000000 in
set_option maxRecDepth 100000 in
/-- At the end: it is an append. -/
theorem ins_end (base : Nat) (v : Value) (n vb vo vc : Nat) (xs news : List Value) (w : World) (hown : w.ownsRow base 34 6 v n xs) (hbig : (n + 1) * 56 ≤ 140737488355328) (hbase : base ≤ w.heap.size)
    (hnl : news.length = 6) (hnews : ∀ j u, news[j]? = some u → w.cell? ⟨vb, vo + j, none⟩ = some u) (h1v : ∀ v ∈ news, v.oneCell' = true) :
    Calls Go.Proofs.Try.prog 72 #[v, .int .i64 n, .slice (some ⟨vb, vo, none⟩) 1 vc] w fun e w' => ∃ v', e = .returned v' ∧ w'.ownsRow base 34 6 v' (n + 1) (xs ++ news) ∧ w.grownBy w' v.ownBlock ∧ (v'.ownBlock = v.ownBlock ∨ v'.ownBlock = some w.heap.size) := by
  obtain ⟨i0, hi0, hz0, hzs, hzb⟩ := info_parts (show (Go.Proofs.Try.prog.info? 34).map (fun i => (i.zero, i.size, i.bytes)) = some (some (.agg #[.int .i64 0, .int .i64 0, .int .i64 0, .int .i64 0, .int .i64 0, .string { data := #[] }]), 6, 56) by kernel_rfl)
  obtain ⟨v', w', hr, hown', hgrow, _, hat⟩ := run_append_own_at (P := Go.Proofs.Try.prog) w base 24 24 34 i0 _ 6 56 Go.Proofs.Try.underlying24 hi0 hz0 hzs hzb rfl (by decide) v n xs hown
    ⟨vb, vo, none⟩ 1 vc news (by rw [hnl]) (fun j u hj => by rw [addr_add]; exact hnews j u hj) h1v (by unfold maxLen; omega) hbig hbase
  have hfin : ∀ e : Ending, e = .returned v' → ∃ v', e = .returned v' ∧ w'.ownsRow base 34 6 v' (n + 1) (xs ++ news) ∧ w.grownBy w' v.ownBlock ∧ (v'.ownBlock = v.ownBlock ∨ v'.ownBlock = some w.heap.size) := fun e he => ⟨v', he, hown', hgrow, hat⟩
  have hn63 : (n : Int) ≤ 9223372036854775807 := by omega
  rcases hown.2 with ⟨rfl, rfl⟩ | ⟨g, cap, cur, rfl, _, hg, hnc, hcm, hcs, _⟩
  · clear hown hown' hgrow hat
    go_enter Go.Proofs.Try.func72, Go.Proofs.Try.ntmps72
    go_wp2_with (at_builtin; refine Lib.wpList_append_run _ rfl _ _ _ _ rfl _ _ rfl rfl _ _ hr ?_)
    go_ret
    exact hfin _ rfl
  · have hc63 : cap ≤ 9223372036854775807 := by unfold maxLen at hcm; omega
    clear hown hown' hgrow hat
    by_cases hcn : cap = n
    · subst hcn
      go_enter Go.Proofs.Try.func72, Go.Proofs.Try.ntmps72
      go_wp2_with (at_builtin; refine Lib.wpList_append_run _ rfl _ _ _ _ rfl _ _ rfl rfl _ _ hr ?_)
      go_ret
      exact hfin _ rfl
    · go_enter Go.Proofs.Try.func72, Go.Proofs.Try.ntmps72
      go_wp2_with (at_builtin; refine Lib.wpList_append_run _ rfl _ _ _ _ rfl _ _ rfl rfl _ _ hr ?_)
      go_ret
      exact hfin _ rfl

end Go.Vm

/- slices.Insert of one api.Tx, as a function in place. -/
set_option linter.unusedVariables false
set_option linter.unusedSimpArgs false
namespace Go.Vm
open Go Go.RowKit Go.Shelf Go.Proofs

theorem ins_calls (base : Nat) (v : Value) (n i vb vo vc : Nat) (xs news : List Value) (w : World) (hown : w.ownsRow base 34 6 v n xs) (hi : i ≤ n) (hbig : (n + 1) * 56 ≤ 140737488355328) (hbase : base ≤ w.heap.size)
    {tA : TypeId} {fA : Nat × Nat} {cA : Array Value} (hv : w.heap[vb]? = some (.cells cA tA fA)) (hA : cA.size ≠ 0) (hvb : ∀ b, pblk v = some b → vb ≠ b)
    (hnl : news.length = 6) (hnews : ∀ j u, news[j]? = some u → w.cell? ⟨vb, vo + j, none⟩ = some u) (h1v : ∀ v ∈ news, v.oneCell' = true) (h1x : ∀ v ∈ xs, v.oneCell' = true) :
    Calls Go.Proofs.Try.prog 72 #[v, .int .i64 i, .slice (some ⟨vb, vo, none⟩) 1 vc] w fun e w' => ∃ v', e = .returned v' ∧ w'.ownsRow base 34 6 v' (n + 1) (xs.take (i * 6) ++ news ++ xs.drop (i * 6)) ∧ w.grownBy w' v.ownBlock ∧
      (v'.ownBlock = v.ownBlock ∨ v'.ownBlock = some w.heap.size) := by
  have hxl := hown.1
  rcases Nat.lt_or_ge i n with hlt | hge
  · have hvw : vb < w.heap.size := (Array.getElem?_eq_some_iff.1 hv).1
    rcases hown.2 with ⟨rfl, rfl⟩ | ⟨g, cap, cur, rfl, hbg, hg, hnc, hcm, hcs, htake⟩
    · omega
    · have hcl : cur.toList.length = cap * 6 := by simpa using hcs
      have hcs' : cur.size = cap * 6 := hcs
      have hCS : (cur.toList.drop (i * 6)).take ((n - i) * 6) = xs.drop (i * 6) := by
        rw [← htake, List.drop_take, Nat.sub_mul]
      have hT : cur.toList.take (i * 6) = xs.take (i * 6) := by
        rw [← htake, List.take_take, Nat.min_eq_left (by omega)]
      have hlen : (xs.take (i * 6) ++ news ++ xs.drop (i * 6)).length = (n + 1) * 6 := by
        simp only [List.length_append, List.length_take, List.length_drop, hnl]; omega
      have h1c : ∀ v ∈ (cur.toList.drop (i * 6)).take ((n - i) * 6), v.oneCell' = true := fun v hv => by rw [hCS] at hv; exact h1x v (List.mem_of_mem_drop hv)
      by_cases hroom : n + 1 ≤ cap
      · refine (ins_shift g n cap i vb vo vc cur news w hlt hroom hcm hg hcs' (hvb g rfl) hv hA hnl hnews h1c h1v).mono ?_
        rintro e w' ⟨rfl, rfl⟩
        refine ⟨_, rfl, ⟨hlen, .inr ⟨g, cap, _, rfl, hbg, setRow_heap w.drew g cur _ 34 (0, 0) hg, hroom, hcm, ?_, ?_⟩⟩, ⟨rfl, rfl, rfl, by simp, fun k _ hk => setRow_other w.drew g k _ (fun e => hk (by simp [Value.ownBlock, e]))⟩, .inl rfl⟩
        · rw [hCS, hT]
          simp only [List.size_toArray, List.length_append, List.length_take, List.length_drop, hnl, hcl]
          omega
        · rw [hCS, hT, ← hlen]
          simp only []
          exact List.take_left
      · refine (ins_grow g n cap i vb vo vc cur news w hlt hnc (by omega) hbig hg hcs' hvw hnl hnews h1c h1v).mono ?_
        rintro e w' ⟨G, R, rfl, hG, hGm, hgr, hh, hRs, hRt⟩
        refine ⟨_, rfl, ⟨hlen, .inr ⟨w.heap.size, G, R, rfl, hbase, hh, hG, hGm, hRs, ?_⟩⟩, hgr, .inr rfl⟩
        rw [hRt, hCS, hT]
  · have : i = n := by omega
    subst this
    refine (ins_end base v i vb vo vc xs news w hown hbig hbase hnl hnews h1v).mono ?_
    rintro e w' ⟨v', rfl, h1, h2, h3⟩
    refine ⟨v', rfl, ?_, h2, h3⟩
    rw [← hxl, List.take_length, List.drop_length, List.append_nil]
    exact h1

/-- One element put into a row of the function's own. -/
def I_slices_Insert_Tx : List V1 → Objs → Option (TV × Objs)
  | [.one (.own id n), .one (.d (.sc (.int k i))), .one (.d (.sl [x]))], objs => match objs[id]? with
    | some (.arr e k' xs) => if k = .i64 ∧ e = 34 ∧ k' = 6 ∧ xs.length = n ∧ 0 ≤ i ∧ i ≤ n ∧ (n + 1) * 56 ≤ 140737488355328 ∧ x.length = 6 then
        some (.v (.one (.own id (n + 1))), objs.set id (.arr 34 6 (xs.take i.toNat ++ x :: xs.drop i.toNat))) else none
    | _ => none
  | _, _ => none

theorem en_slices_Insert_Tx : Enters Go.Proofs.Try.prog 72 := ⟨_, Go.Proofs.Try.func72, rfl, rfl⟩

theorem ic_slices_Insert_Tx : InlC Go.Proofs.Try.prog 72 I_slices_Insert_Tx := by
  intro Φ θ base w objs vs args v objs' hs ha h
  unfold I_slices_Insert_Tx at h
  split at h
  case h_2 => cases h
  case h_1 id n k i x =>
  split at h
  case h_2 => cases h
  case h_1 e k' xs hob =>
  split at h
  case isFalse => cases h
  case isTrue hc =>
  obtain ⟨rfl, rfl, rfl, hxn, hi0, hin, hbig, hxl⟩ := hc
  simp only [Option.some.injEq, Prod.mk.injEq] at h
  obtain ⟨rfl, rfl⟩ := h
  obtain ⟨u0, us0, rfl, h0, hus⟩ := ha.cons_left
  obtain ⟨u1, us1, rfl, h1, hus⟩ := hus.cons_left
  obtain ⟨u2, us2, rfl, h2, hus⟩ := hus.cons_left
  have := hus.nil_left; subst this
  have hθ := own_val (Φ := Φ) h0 (Lr_of hob) hxn.symm
  subst hθ
  have hu1 : u1 = .int .i64 i := (den_sc h1).1
  subst hu1
  obtain ⟨vs, hown, hden, hall, hk0, hno⟩ := hs.ob id _ hob
  obtain ⟨b, off, vc, news, rfl, hdn, hat, hnl, hbne⟩ := den_flat (k := 6) h2 (by simp) hs.sat (by simpa using hxl)
  simp only [List.flatten_cons, List.flatten_nil, List.append_nil, List.length_cons, List.length_nil, Nat.zero_add, Nat.one_mul] at hdn hnl
  have h1v : ∀ u ∈ news, u.oneCell' = true := fun u hu => by
    obtain ⟨j, hj, rfl⟩ := List.getElem_of_mem hu
    exact Den.one (hdn.2 j _ _ (List.getElem?_eq_getElem (by rw [hdn.1]; exact hj)) (List.getElem?_eq_getElem hj))
  have h1x : ∀ u ∈ vs, u.oneCell' = true := fun u hu => by
    obtain ⟨j, hj, rfl⟩ := List.getElem_of_mem hu
    exact Den.one (hden.2 j _ _ (List.getElem?_eq_getElem (by rw [hden.1]; exact hj)) (List.getElem?_eq_getElem hj))
  have hc0 : w.cell? ⟨b, off + 0, none⟩ = some news[0] := hat 0 _ (List.getElem?_eq_getElem (by omega))
  obtain ⟨cA, tA, fA, hv, hA⟩ : ∃ cA tA fA, w.heap[b]? = some (.cells cA tA fA) ∧ cA.size ≠ 0 := by
    unfold World.cell? at hc0
    split at hc0
    · rename_i c t f heq
      refine ⟨c, t, f, heq, fun e => ?_⟩
      simp [Array.getElem?_eq_none (show c.size ≤ off by omega)] at hc0
    · cases hc0
  have hii : ((i.toNat : Nat) : Int) = i := by omega
  have hcall := ins_calls base (θ id) xs.length i.toNat b off vc vs news w hown (by omega) (by omega) hs.base hv hA (fun b' hb' e => hbne b' (hno b' hb') e.symm) hnl (fun j u hj => hat j u hj) h1v h1x
  rw [hii] at hcall
  refine hcall.mono ?_
  rintro e w' ⟨v', rfl, hown', hgrow, hat'⟩
  have hvb := own_pblk hown
  have hvb' := own_pblk hown'
  have hgrowB : Below base w w' := (Below.refl base w).grown hgrow hs.base (fun k hk => by
    have := hown.lt k hk; omega)
  have hlen : (xs.take i.toNat ++ x :: xs.drop i.toNat).length = xs.length + 1 := by simp; omega
  have hgo : Go2 θ (thAt θ id v') objs (objs.set id (.arr 34 6 (xs.take i.toNat ++ x :: xs.drop i.toNat))) :=
    go_set hob (fun m' hm' => ⟨xs.length, rfl, by simp only [len1, hlen] at hm'; injection hm' with hm'; omega, fun e => by simp only [len1, hlen] at hm'; injection hm' with hm'; omega⟩)
  have hno' : ∀ b, pblk v' = some b → ∀ o, Φ b o = none := by
    intro b hb o
    rcases hat' with h | h
    · rw [hvb', h, ← hvb] at hb; exact hno b hb o
    · rw [hvb', h] at hb; injection hb with hb; subst hb; exact sat_none hs.sat o
  have hkeepB : ∀ b, b < w.heap.size → (∀ b', pblk (θ id) = some b' → b ≠ b') → w'.heap[b]? = w.heap[b]? := fun b hb hne' =>
    hgrow.block b hb (fun e => by rw [← hvb] at e; exact hne' b e.symm rfl)
  have hfl : (xs.take i.toNat ++ x :: xs.drop i.toNat).flatten = xs.flatten.take (i.toNat * 6) ++ x ++ xs.flatten.drop (i.toNat * 6) := by
    rw [List.flatten_append, List.flatten_cons, flat_take hall, flat_drop' hall, List.append_assoc]
  have hst := hs.change (w' := w') (ob := .arr 34 6 (xs.take i.toNat ++ x :: xs.drop i.toNat)) v' hob hgo
    ⟨_, by rw [thAt_same, hlen]; exact hown', by
      rw [hfl]
      exact ((hden.take _).append hdn).append (hden.drop _), fun y hy => by
        rcases List.mem_append.1 hy with h | h
        · exact hall y (List.mem_of_mem_take h)
        · rcases List.mem_cons.1 h with rfl | h
          · exact hxl
          · exact hall y (List.mem_of_mem_drop h), by omega, fun b hb o => by rw [thAt_same] at hb; exact hno' b hb o⟩
    (fun b o u hu => by
      have hb := hs.sat.lt hu
      have := hkeepB b hb (fun b' hb' e => by subst e; rw [hno b hb'] at hu; cases hu)
      exact (World.cell?_of_block (w := w) (a := ⟨b, o, none⟩) this).trans (hs.sat b o u hu))
    (fun j b hj hm => by
      have hb := hs.mblk_ge hm
      have hne' : ∀ b', pblk (θ id) = some b' → b ≠ b' := fun b' hb' e => by
        subst e
        exact hj (hs.apart j id b hm (by unfold mblk; rw [hob]; exact hb'))
      refine ⟨hkeepB b hb.2 hne', fun e => ?_⟩
      rcases hat' with h | h
      · rw [hvb', h, ← hvb] at e; exact hne' b e rfl
      · rw [hvb', h] at e; injection e with e; omega)
    (Nat.le_trans hs.base hgrow.size)
  refine ⟨v', Φ, thAt θ id v', rfl, ⟨Le.refl _, hgo, New.refl _ _, hgrowB⟩, hst, ?_, some (xs.length + 1), ?_, fun m hm => ⟨by injection hm with hm; omega, fun _ => (thAt_same _ _ _).symm⟩⟩
  · rcases hown'.2 with ⟨_, h2⟩ | ⟨g, cap, cur, hv', _, _, hnc', _⟩
    · omega
    · exact ⟨_, cap, by rw [hv', hxn], fun _ => ⟨g, rfl⟩, by omega⟩
  · rw [← hlen]
    exact Lr_of (by rw [List.getElem?_set_self (List.getElem?_eq_some_iff.1 hob).1])

end Go.Vm

/- What Go functions come to, as Lean functions: each with its contract. -/
set_option linter.unusedVariables false
set_option linter.unusedSimpArgs false
namespace Go.Vm
open Go Go.RowKit

/-! ### hopper/txn.Slots -/
theorem en_txn_Slots : Enters Go.Proofs.Try.prog 70 := ⟨_, Go.Proofs.Try.func70, rfl, rfl⟩
def ty_txn_Slots : List (Nat × TI) := [(34, { size := 6, bytes := 56, agg := true, zero := [.sc (.int .i64 0), .sc (.int .i64 0), .sc (.int .i64 0), .sc (.int .i64 0), .sc (.int .i64 0), .sc (.string "".toByteArray)], kind := .struct [(0, 1, false), (1, 1, false), (2, 1, false), (3, 1, false), (4, 1, false), (5, 1, false)] }), (9, { size := 1, bytes := 16, agg := false, zero := [.sc (.string "".toByteArray)], kind := .str }), (3, { size := 1, bytes := 8, agg := false, zero := [.sc (.int .i64 0)], kind := .int .i64 })]
noncomputable def C_txn_Slots : Cfg := mkC ty_txn_Slots [] [(80, M_txn_Encode), (81, M_sat_Slots)] [80, 81] [] [] [] []
theorem E_txn_Slots : Env1 Go.Proofs.Try.prog C_txn_Slots := mkC_ok (by kernel_rfl) (⟨⟨en_txn_Encode, cc_txn_Encode⟩, ⟨⟨en_sat_Slots, cc_sat_Slots⟩, trivial⟩⟩) (by kernel_rfl)
theorem C_txn_Slots_ty : (C_txn_Slots).ty = ty_txn_Slots := rfl
theorem C_txn_Slots_eqs : (C_txn_Slots).eqs = [] := rfl
theorem C_txn_Slots_call : (C_txn_Slots).call = fun f => (([(80, M_txn_Encode), (81, M_sat_Slots)] : List (Nat × (List DA → Option (List RV)))).lookup f).getD fun _ => none := rfl
theorem C_txn_Slots_calls : (C_txn_Slots).calls = [80, 81] := rfl
theorem C_txn_Slots_scal : (C_txn_Slots).scal = [80, 81] := rfl
theorem C_txn_Slots_owns : (C_txn_Slots).owns = [] := rfl
theorem C_txn_Slots_vars : (C_txn_Slots).vars = [] := rfl
theorem C_txn_Slots_ores : (C_txn_Slots).ores = [] := rfl
theorem C_txn_Slots_flags : (C_txn_Slots).flags = [] := rfl
theorem C_txn_Slots_pins : (C_txn_Slots).pins = [] := rfl
theorem C_txn_Slots_inls : (C_txn_Slots).inls = [] := rfl
def T_txn_Slots : List (Nat × LoopA) := []
set_option maxHeartbeats 20000000 in
set_option maxRecDepth 100000 in
noncomputable def pk_txn_Slots : { F : Tx → Option (Int) // CallC Go.Proofs.Try.prog 70 (con1 (eT ceTx) (fun x0 => (F x0).map (res1 rI).enc)) } :=
  ⟨_, cc1 E_txn_Slots Go.Proofs.Try.func70 rfl rfl (T := T_txn_Slots) (G := []) (r := (res1 rI)) fun x0 => by
    unfold Wf
    simp (maxSteps := 10000000) (implicitDefEqProofs := false) [-evOps, -evOne, -evOp, -evIndexAddr, -evIndex, -evPick, -binV, -evLoad, -evStore, -loadC, -callV, -nilC, -storeC, -toDVs, -toDAs, -resRs, List.lookup, List.replicate, List.range_succ, ty_txn_Slots, C_txn_Slots_ty, C_txn_Slots_eqs, C_txn_Slots_call, C_txn_Slots_calls, C_txn_Slots_scal, C_txn_Slots_owns, C_txn_Slots_vars, C_txn_Slots_ores, C_txn_Slots_flags, C_txn_Slots_pins, C_txn_Slots_inls, T_txn_Slots, Go.Proofs.Try.f70, M_txn_Encode, M_sat_Slots, iC, uC, bC, sC, Tx.c]
    try rfl⟩
noncomputable def F_txn_Slots : Tx → Option (Int) := pk_txn_Slots.1
noncomputable def M_txn_Slots : List DA → Option (List RV) := con1 (eT ceTx) (fun x0 => (F_txn_Slots x0).map (res1 rI).enc)
theorem cc_txn_Slots : CallC Go.Proofs.Try.prog 70 M_txn_Slots := pk_txn_Slots.2
/-! ### hopper/queue.Slots -/
theorem en_queue_Slots : Enters Go.Proofs.Try.prog 62 := ⟨_, Go.Proofs.Try.func62, rfl, rfl⟩
def ty_queue_Slots : List (Nat × TI) := [(26, { size := 3, bytes := 40, agg := true, zero := [.sc (.int .i64 0), .sc (.int .i64 0), .sl []], kind := .struct [(0, 1, false), (1, 1, false), (2, 1, false)] }), (24, { size := 1, bytes := 24, agg := false, zero := [.sl []], kind := .slice 34 }), (3, { size := 1, bytes := 8, agg := false, zero := [.sc (.int .i64 0)], kind := .int .i64 }), (34, { size := 6, bytes := 56, agg := true, zero := [.sc (.int .i64 0), .sc (.int .i64 0), .sc (.int .i64 0), .sc (.int .i64 0), .sc (.int .i64 0), .sc (.string "".toByteArray)], kind := .struct [(0, 1, false), (1, 1, false), (2, 1, false), (3, 1, false), (4, 1, false), (5, 1, false)] })]
noncomputable def C_queue_Slots : Cfg := mkC ty_queue_Slots [] [(70, M_txn_Slots)] [70] [] [3,7,8,9] [] []
theorem E_queue_Slots : Env1 Go.Proofs.Try.prog C_queue_Slots := mkC_ok (by kernel_rfl) (⟨⟨en_txn_Slots, cc_txn_Slots⟩, trivial⟩) (by kernel_rfl)
theorem C_queue_Slots_ty : (C_queue_Slots).ty = ty_queue_Slots := rfl
theorem C_queue_Slots_eqs : (C_queue_Slots).eqs = [] := rfl
theorem C_queue_Slots_call : (C_queue_Slots).call = fun f => (([(70, M_txn_Slots)] : List (Nat × (List DA → Option (List RV)))).lookup f).getD fun _ => none := rfl
theorem C_queue_Slots_calls : (C_queue_Slots).calls = [70] := rfl
theorem C_queue_Slots_scal : (C_queue_Slots).scal = [70] := rfl
theorem C_queue_Slots_owns : (C_queue_Slots).owns = [] := rfl
theorem C_queue_Slots_vars : (C_queue_Slots).vars = [3,7,8,9] := rfl
theorem C_queue_Slots_ores : (C_queue_Slots).ores = [] := rfl
theorem C_queue_Slots_flags : (C_queue_Slots).flags = [] := rfl
theorem C_queue_Slots_pins : (C_queue_Slots).pins = [] := rfl
theorem C_queue_Slots_inls : (C_queue_Slots).inls = [] := rfl
structure L_queue_Slots_0 where
  n : Int
  v7 : List Tx
  v8 : Int
  v9 : Int
  o0 : Acc
def an_queue_Slots_0 : Ann := mkAnn (σ := L_queue_Slots_0) (lSkip vUnk <| lSkip vUnk <| lSkip vUnk <| lCons (vOne cI) <| lSkip vUnk <| lSkip vUnk <| lSkip vUnk <| lCons (vOne (cSl ceTx)) <| lCons (vOne cI) <| lCons (vOne cI) <| lSkip vUnk <| lSkip vUnk <| lSkip vUnk <| lSkip vUnk <| lSkip vUnk <| lSkip vUnk <| lSkip vUnk <| lSkip vUnk <| lSkip vUnk <|  lNil) (lCons (oBox 26 (cStr ceAcc)) <|  lNil)
  (fun a b => L_queue_Slots_0.mk (a.1) (a.2.1) (a.2.2.1) (a.2.2.2.1) (b.1)) (fun s => (s.n, s.v7, s.v8, s.v9, ())) (fun s => (s.o0, ())) (fun a b => true) (fun _ _ _ => ⟨rfl, rfl⟩)
theorem an_queue_Slots_0_st (s : an_queue_Slots_0.σ) : an_queue_Slots_0.st s = ([.unk, .unk, .unk, .v (.one (.d (.sc (.int .i64 (L_queue_Slots_0.n s))))), .unk, .unk, .unk, .v (.one (.d (.sl ((L_queue_Slots_0.v7 s).map Tx.c)))), .v (.one (.d (.sc (.int .i64 (L_queue_Slots_0.v8 s))))), .v (.one (.d (.sc (.int .i64 (L_queue_Slots_0.v9 s))))), .unk, .unk, .unk, .unk, .unk, .unk, .unk, .unk, .unk], [.box 26 (ddv (Acc.c (L_queue_Slots_0.o0 s)))]) := rfl
set_option maxHeartbeats 4000000 in
set_option maxRecDepth 100000 in
theorem an_queue_Slots_0_un {β : Type} (n : Int) (p_v7 : List (List DV)) (v8 : Int) (v9 : Int) (p_o0 : List CV) (f_ : an_queue_Slots_0.σ → Option β) : (an_queue_Slots_0.un [.unk, .unk, .unk, .v (.one (.d (.sc (.int .i64 n)))), .unk, .unk, .unk, .v (.one (.d (.sl p_v7))), .v (.one (.d (.sc (.int .i64 v8)))), .v (.one (.d (.sc (.int .i64 v9)))), .unk, .unk, .unk, .unk, .unk, .unk, .unk, .unk, .unk] [.box 26 p_o0]).bind f_ = (decL dTx p_v7).bind fun v7 => ((allD p_o0).bind dAcc).bind fun o0 => f_ (L_queue_Slots_0.mk n v7 v8 v9 o0) :=
  (mkAnn_un (σ := L_queue_Slots_0) _ _ _ _ _ _ _ _ _ f_).trans (by simp [Option.bind_assoc])
def T_queue_Slots : List (Nat × LoopA) := [(0, .ty an_queue_Slots_0)]
set_option maxHeartbeats 20000000 in
set_option maxRecDepth 100000 in
noncomputable def pk_queue_Slots : { F : Acc → Option (Int) // CallC Go.Proofs.Try.prog 62 (con1 (eT ceAcc) (fun x0 => (F x0).map (res1 rI).enc)) } :=
  ⟨_, cc1 E_queue_Slots Go.Proofs.Try.func62 rfl rfl (T := T_queue_Slots) (G := []) (r := (res1 rI)) fun x0 => by
    unfold Wf
    simp (maxSteps := 10000000) (implicitDefEqProofs := false) [-evOps, -evOne, -evOp, -evIndexAddr, -evIndex, -evPick, -binV, -evLoad, -evStore, -loadC, -callV, -nilC, -storeC, -toDVs, -toDAs, -resRs, List.lookup, List.replicate, List.range_succ, ty_queue_Slots, C_queue_Slots_ty, C_queue_Slots_eqs, C_queue_Slots_call, C_queue_Slots_calls, C_queue_Slots_scal, C_queue_Slots_owns, C_queue_Slots_vars, C_queue_Slots_ores, C_queue_Slots_flags, C_queue_Slots_pins, C_queue_Slots_inls, T_queue_Slots, Go.Proofs.Try.f62, M_txn_Slots, an_queue_Slots_0_st, an_queue_Slots_0_un, iC, uC, bC, sC, Acc.c, Tx.c]
    try rfl⟩
noncomputable def F_queue_Slots : Acc → Option (Int) := pk_queue_Slots.1
noncomputable def M_queue_Slots : List DA → Option (List RV) := con1 (eT ceAcc) (fun x0 => (F_queue_Slots x0).map (res1 rI).enc)
theorem cc_queue_Slots : CallC Go.Proofs.Try.prog 62 M_queue_Slots := pk_queue_Slots.2
/-! ### hopper/queue.Place -/
theorem en_queue_Place : Enters Go.Proofs.Try.prog 49 := ⟨_, Go.Proofs.Try.func49, rfl, rfl⟩
def ty_queue_Place : List (Nat × TI) := [(26, { size := 3, bytes := 40, agg := true, zero := [.sc (.int .i64 0), .sc (.int .i64 0), .sl []], kind := .struct [(0, 1, false), (1, 1, false), (2, 1, false)] }), (34, { size := 6, bytes := 56, agg := true, zero := [.sc (.int .i64 0), .sc (.int .i64 0), .sc (.int .i64 0), .sc (.int .i64 0), .sc (.int .i64 0), .sc (.string "".toByteArray)], kind := .struct [(0, 1, false), (1, 1, false), (2, 1, false), (3, 1, false), (4, 1, false), (5, 1, false)] }), (3, { size := 1, bytes := 8, agg := false, zero := [.sc (.int .i64 0)], kind := .int .i64 }), (24, { size := 1, bytes := 24, agg := false, zero := [.sl []], kind := .slice 34 })]
noncomputable def C_queue_Place : Cfg := mkC ty_queue_Place [] [(68, M_queue_Check), (58, M_txn_Check), (69, M_queue_in), (37, M_queue_Find), (70, M_txn_Slots), (71, M_sat_Raise)] [68, 58, 69, 37, 70, 71] [] [] [] [(13, [true, true, true, false, true, true, true])]
theorem E_queue_Place : Env1 Go.Proofs.Try.prog C_queue_Place := mkC_ok (by kernel_rfl) (⟨⟨en_queue_Check, cc_queue_Check⟩, ⟨⟨en_txn_Check, cc_txn_Check⟩, ⟨⟨en_queue_in, cc_queue_in⟩, ⟨⟨en_queue_Find, cc_queue_Find⟩, ⟨⟨en_txn_Slots, cc_txn_Slots⟩, ⟨⟨en_sat_Raise, cc_sat_Raise⟩, trivial⟩⟩⟩⟩⟩⟩) (by kernel_rfl)
theorem C_queue_Place_ty : (C_queue_Place).ty = ty_queue_Place := rfl
theorem C_queue_Place_eqs : (C_queue_Place).eqs = [] := rfl
theorem C_queue_Place_call : (C_queue_Place).call = fun f => (([(68, M_queue_Check), (58, M_txn_Check), (69, M_queue_in), (37, M_queue_Find), (70, M_txn_Slots), (71, M_sat_Raise)] : List (Nat × (List DA → Option (List RV)))).lookup f).getD fun _ => none := rfl
theorem C_queue_Place_calls : (C_queue_Place).calls = [68, 58, 69, 37, 70, 71] := rfl
theorem C_queue_Place_scal : (C_queue_Place).scal = [68, 58, 69, 37, 70, 71] := rfl
theorem C_queue_Place_owns : (C_queue_Place).owns = [] := rfl
theorem C_queue_Place_vars : (C_queue_Place).vars = [] := rfl
theorem C_queue_Place_ores : (C_queue_Place).ores = [] := rfl
theorem C_queue_Place_flags : (C_queue_Place).flags = [(13, [true, true, true, false, true, true, true])] := rfl
theorem C_queue_Place_pins : (C_queue_Place).pins = [] := rfl
theorem C_queue_Place_inls : (C_queue_Place).inls = [] := rfl
def T_queue_Place : List (Nat × LoopA) := []
set_option maxHeartbeats 20000000 in
set_option maxRecDepth 100000 in
noncomputable def pk_queue_Place : { F : Acc → Tx → Int → Int → Option (Int × Int) // CallC Go.Proofs.Try.prog 49 (con4 (eT ceAcc) (eT ceTx) eInt eInt (fun x0 x1 x2 x3 => (F x0 x1 x2 x3).map (res2 rI rI).enc)) } :=
  ⟨_, cc4 E_queue_Place Go.Proofs.Try.func49 rfl rfl (T := T_queue_Place) (G := []) (r := (res2 rI rI)) fun x0 x1 x2 x3 => by
    unfold Wf
    simp (maxSteps := 10000000) (implicitDefEqProofs := false) [-evOps, -evOne, -evOp, -evIndexAddr, -evIndex, -evPick, -binV, -evLoad, -evStore, -loadC, -callV, -nilC, -storeC, -toDVs, -toDAs, -resRs, List.lookup, List.replicate, List.range_succ, ty_queue_Place, C_queue_Place_ty, C_queue_Place_eqs, C_queue_Place_call, C_queue_Place_calls, C_queue_Place_scal, C_queue_Place_owns, C_queue_Place_vars, C_queue_Place_ores, C_queue_Place_flags, C_queue_Place_pins, C_queue_Place_inls, T_queue_Place, Go.Proofs.Try.f49, M_queue_Check, M_txn_Check, M_queue_in, M_queue_Find, M_txn_Slots, M_sat_Raise, iC, uC, bC, sC, Acc.c, Tx.c]
    try rfl⟩
noncomputable def F_queue_Place : Acc → Tx → Int → Int → Option (Int × Int) := pk_queue_Place.1
noncomputable def M_queue_Place : List DA → Option (List RV) := con4 (eT ceAcc) (eT ceTx) eInt eInt (fun x0 x1 x2 x3 => (F_queue_Place x0 x1 x2 x3).map (res2 rI rI).enc)
theorem cc_queue_Place : CallC Go.Proofs.Try.prog 49 M_queue_Place := pk_queue_Place.2
/-! ### hopper/queue.Put -/
theorem en_queue_Put : Enters Go.Proofs.Try.prog 50 := ⟨_, Go.Proofs.Try.func50, rfl, rfl⟩
def ty_queue_Put : List (Nat × TI) := [(26, { size := 3, bytes := 40, agg := true, zero := [.sc (.int .i64 0), .sc (.int .i64 0), .sl []], kind := .struct [(0, 1, false), (1, 1, false), (2, 1, false)] }), (34, { size := 6, bytes := 56, agg := true, zero := [.sc (.int .i64 0), .sc (.int .i64 0), .sc (.int .i64 0), .sc (.int .i64 0), .sc (.int .i64 0), .sc (.string "".toByteArray)], kind := .struct [(0, 1, false), (1, 1, false), (2, 1, false), (3, 1, false), (4, 1, false), (5, 1, false)] }), (24, { size := 1, bytes := 24, agg := false, zero := [.sl []], kind := .slice 34 }), (3, { size := 1, bytes := 8, agg := false, zero := [.sc (.int .i64 0)], kind := .int .i64 })]
noncomputable def C0_queue_Put : Cfg := mkC ty_queue_Put [] [(61, M_queue_place), (64, M_slices_Clone_Tx)] [61] [] [] [] []
noncomputable def C_queue_Put : Cfg := mkI C0_queue_Put [(72, I_slices_Insert_Tx)]
theorem E0_queue_Put : Env1 Go.Proofs.Try.prog C0_queue_Put := mkC_ok (by kernel_rfl) (⟨⟨en_queue_place, cc_queue_place⟩, ⟨⟨en_slices_Clone_Tx, cc_slices_Clone_Tx⟩, trivial⟩⟩) (by kernel_rfl)
theorem E_queue_Put : Env1 Go.Proofs.Try.prog C_queue_Put := mkI_ok E0_queue_Put (⟨⟨en_slices_Insert_Tx, ic_slices_Insert_Tx⟩, trivial⟩)
theorem C_queue_Put_ty : (C_queue_Put).ty = ty_queue_Put := rfl
theorem C_queue_Put_eqs : (C_queue_Put).eqs = [] := rfl
theorem C_queue_Put_call : (C_queue_Put).call = fun f => (([(61, M_queue_place), (64, M_slices_Clone_Tx)] : List (Nat × (List DA → Option (List RV)))).lookup f).getD fun _ => none := rfl
theorem C_queue_Put_calls : (C_queue_Put).calls = [61, 64] := rfl
theorem C_queue_Put_scal : (C_queue_Put).scal = [61] := rfl
theorem C_queue_Put_owns : (C_queue_Put).owns = [] := rfl
theorem C_queue_Put_vars : (C_queue_Put).vars = [] := rfl
theorem C_queue_Put_ores : (C_queue_Put).ores = [] := rfl
theorem C_queue_Put_flags : (C_queue_Put).flags = [] := rfl
theorem C_queue_Put_pins : (C_queue_Put).pins = [] := rfl
theorem C_queue_Put_inls : (C_queue_Put).inls = [72] := rfl
theorem C_queue_Put_inl : (C_queue_Put).inl = fun f => (([(72, I_slices_Insert_Tx)] : List (Nat × (List V1 → Objs → Option (TV × Objs)))).lookup f).getD fun _ _ => none := rfl
def T_queue_Put : List (Nat × LoopA) := []
set_option maxHeartbeats 20000000 in
set_option maxRecDepth 100000 in
noncomputable def pk_queue_Put : { F : Acc → Tx → Option (Acc) // CallC Go.Proofs.Try.prog 50 (con2 (eT ceAcc) (eT ceTx) (fun x0 x1 => (F x0 x1).map (res1 (rAgg ceAcc)).enc)) } :=
  ⟨_, cc2 E_queue_Put Go.Proofs.Try.func50 rfl rfl (T := T_queue_Put) (G := []) (r := (res1 (rAgg ceAcc))) fun x0 x1 => by
    unfold Wf
    simp (maxSteps := 10000000) (implicitDefEqProofs := false) [-evOps, -evOne, -evOp, -evIndexAddr, -evIndex, -evPick, -binV, -evLoad, -evStore, -loadC, -callV, -nilC, -storeC, -toDVs, -toDAs, -resRs, List.lookup, List.replicate, List.range_succ, ty_queue_Put, C_queue_Put_ty, C_queue_Put_eqs, C_queue_Put_call, C_queue_Put_calls, C_queue_Put_scal, C_queue_Put_owns, C_queue_Put_vars, C_queue_Put_ores, C_queue_Put_flags, C_queue_Put_pins, C_queue_Put_inls, C_queue_Put_inl, T_queue_Put, Go.Proofs.Try.f50, M_queue_place, M_slices_Clone_Tx, iC, uC, bC, sC, Acc.c, Tx.c, I_slices_Insert_Tx, mkI]
    try rfl⟩
noncomputable def F_queue_Put : Acc → Tx → Option (Acc) := pk_queue_Put.1
noncomputable def M_queue_Put : List DA → Option (List RV) := con2 (eT ceAcc) (eT ceTx) (fun x0 x1 => (F_queue_Put x0 x1).map (res1 (rAgg ceAcc)).enc)
theorem cc_queue_Put : CallC Go.Proofs.Try.prog 50 M_queue_Put := pk_queue_Put.2

end Go.Vm

/- What Go functions come to, as Lean functions: each with its contract. -/
set_option linter.unusedVariables false
set_option linter.unusedSimpArgs false
namespace Go.Vm
open Go Go.RowKit

/-! ### (*hopper/look.planner).to -/
theorem en_look_to : Enters Go.Proofs.Try.prog 38 := ⟨_, Go.Proofs.Try.func38, rfl, rfl⟩
def ty_look_to : List (Nat × TI) := [(26, { size := 3, bytes := 40, agg := true, zero := [.sc (.int .i64 0), .sc (.int .i64 0), .sl []], kind := .struct [(0, 1, false), (1, 1, false), (2, 1, false)] }), (77, { size := 18, bytes := 216, agg := true, zero := [.sc (.bool false), .sc (.int .i64 0), .sc (.int .i64 0), .sc (.int .i64 0), .sl [], .sl [], .sc (.int .i64 0), .sc (.int .i64 0), .sc (.int .i64 0), .sc (.int .i64 0), .sc (.int .i64 0), .sc (.int .i64 0), .sc (.string "".toByteArray), .sl [], .sc (.int .i64 0), .sc (.int .i64 0), .sc (.int .i64 0), .sl []], kind := .struct [(0, 15, true), (15, 3, true)] }), (38, { size := 15, bytes := 176, agg := true, zero := [.sc (.bool false), .sc (.int .i64 0), .sc (.int .i64 0), .sc (.int .i64 0), .sl [], .sl [], .sc (.int .i64 0), .sc (.int .i64 0), .sc (.int .i64 0), .sc (.int .i64 0), .sc (.int .i64 0), .sc (.int .i64 0), .sc (.string "".toByteArray), .sl [], .sc (.int .i64 0)], kind := .struct [(0, 1, false), (1, 1, false), (2, 3, true), (5, 1, false), (6, 9, true)] }), (4, { size := 1, bytes := 1, agg := false, zero := [.sc (.bool false)], kind := .bool }), (3, { size := 1, bytes := 8, agg := false, zero := [.sc (.int .i64 0)], kind := .int .i64 })]
noncomputable def C_look_to : Cfg := mkP (mkC ty_look_to [] [(62, M_queue_Slots)] [62] [] [4] [] [(1, [true, true, true, true, true, true, false, true, true, true, false]), (2, [true, true, true, true, true, true, true, false, true, true, true, true, false])]) [(1, [3])]
theorem E_look_to : Env1 Go.Proofs.Try.prog C_look_to := mkP_ok (mkC_ok (by kernel_rfl) (⟨⟨en_queue_Slots, cc_queue_Slots⟩, trivial⟩) (by kernel_rfl))
theorem C_look_to_ty : (C_look_to).ty = ty_look_to := rfl
theorem C_look_to_eqs : (C_look_to).eqs = [] := rfl
theorem C_look_to_call : (C_look_to).call = fun f => (([(62, M_queue_Slots)] : List (Nat × (List DA → Option (List RV)))).lookup f).getD fun _ => none := rfl
theorem C_look_to_calls : (C_look_to).calls = [62] := rfl
theorem C_look_to_scal : (C_look_to).scal = [62] := rfl
theorem C_look_to_owns : (C_look_to).owns = [] := rfl
theorem C_look_to_vars : (C_look_to).vars = [4] := rfl
theorem C_look_to_ores : (C_look_to).ores = [] := rfl
theorem C_look_to_flags : (C_look_to).flags = [(1, [true, true, true, true, true, true, false, true, true, true, false]), (2, [true, true, true, true, true, true, true, false, true, true, true, true, false])] := rfl
theorem C_look_to_pins : (C_look_to).pins = [(1, [3])] := rfl
theorem C_look_to_inls : (C_look_to).inls = [] := rfl
def T_look_to : List (Nat × LoopA) := []
noncomputable def I_look_to : List V1 → Objs → Option (TV × Objs) := Wi C_look_to T_look_to [] Go.Proofs.Try.f38
theorem ic_look_to : InlC Go.Proofs.Try.prog 38 I_look_to := inlC_of_W E_look_to Go.Proofs.Try.func38 rfl rfl
/-! ### (*hopper/look.planner).answer -/
theorem en_look_answer : Enters Go.Proofs.Try.prog 41 := ⟨_, Go.Proofs.Try.func41, rfl, rfl⟩
def ty_look_answer : List (Nat × TI) := [(36, { size := 9, bytes := 96, agg := true, zero := [.sc (.int .i64 0), .sc (.int .i64 0), .sc (.int .i64 0), .sc (.int .i64 0), .sc (.int .i64 0), .sc (.int .i64 0), .sc (.string "".toByteArray), .sl [], .sc (.int .i64 0)], kind := .struct [(0, 1, false), (1, 6, true), (7, 1, false), (8, 1, false)] }), (38, { size := 15, bytes := 176, agg := true, zero := [.sc (.bool false), .sc (.int .i64 0), .sc (.int .i64 0), .sc (.int .i64 0), .sl [], .sl [], .sc (.int .i64 0), .sc (.int .i64 0), .sc (.int .i64 0), .sc (.int .i64 0), .sc (.int .i64 0), .sc (.int .i64 0), .sc (.string "".toByteArray), .sl [], .sc (.int .i64 0)], kind := .struct [(0, 1, false), (1, 1, false), (2, 3, true), (5, 1, false), (6, 9, true)] }), (77, { size := 18, bytes := 216, agg := true, zero := [.sc (.bool false), .sc (.int .i64 0), .sc (.int .i64 0), .sc (.int .i64 0), .sl [], .sl [], .sc (.int .i64 0), .sc (.int .i64 0), .sc (.int .i64 0), .sc (.int .i64 0), .sc (.int .i64 0), .sc (.int .i64 0), .sc (.string "".toByteArray), .sl [], .sc (.int .i64 0), .sc (.int .i64 0), .sc (.int .i64 0), .sl []], kind := .struct [(0, 15, true), (15, 3, true)] })]
noncomputable def C_look_answer : Cfg := mkC ty_look_answer [] [] [] [] [4] [] []
theorem E_look_answer : Env1 Go.Proofs.Try.prog C_look_answer := mkC_ok (by kernel_rfl) trivial (by kernel_rfl)
theorem C_look_answer_ty : (C_look_answer).ty = ty_look_answer := rfl
theorem C_look_answer_eqs : (C_look_answer).eqs = [] := rfl
theorem C_look_answer_call : (C_look_answer).call = fun f => (([] : List (Nat × (List DA → Option (List RV)))).lookup f).getD fun _ => none := rfl
theorem C_look_answer_calls : (C_look_answer).calls = [] := rfl
theorem C_look_answer_scal : (C_look_answer).scal = [] := rfl
theorem C_look_answer_owns : (C_look_answer).owns = [] := rfl
theorem C_look_answer_vars : (C_look_answer).vars = [4] := rfl
theorem C_look_answer_ores : (C_look_answer).ores = [] := rfl
theorem C_look_answer_flags : (C_look_answer).flags = [] := rfl
theorem C_look_answer_pins : (C_look_answer).pins = [] := rfl
theorem C_look_answer_inls : (C_look_answer).inls = [] := rfl
def T_look_answer : List (Nat × LoopA) := []
noncomputable def I_look_answer : List V1 → Objs → Option (TV × Objs) := Wi C_look_answer T_look_answer [] Go.Proofs.Try.f41
theorem ic_look_answer : InlC Go.Proofs.Try.prog 41 I_look_answer := inlC_of_W E_look_answer Go.Proofs.Try.func41 rfl rfl
/-! ### (*hopper/look.planner).tell -/
theorem en_look_tell : Enters Go.Proofs.Try.prog 40 := ⟨_, Go.Proofs.Try.func40, rfl, rfl⟩
def ty_look_tell : List (Nat × TI) := [(24, { size := 1, bytes := 24, agg := false, zero := [.sl []], kind := .slice 34 }), (3, { size := 1, bytes := 8, agg := false, zero := [.sc (.int .i64 0)], kind := .int .i64 }), (34, { size := 6, bytes := 56, agg := true, zero := [.sc (.int .i64 0), .sc (.int .i64 0), .sc (.int .i64 0), .sc (.int .i64 0), .sc (.int .i64 0), .sc (.string "".toByteArray)], kind := .struct [(0, 1, false), (1, 1, false), (2, 1, false), (3, 1, false), (4, 1, false), (5, 1, false)] }), (77, { size := 18, bytes := 216, agg := true, zero := [.sc (.bool false), .sc (.int .i64 0), .sc (.int .i64 0), .sc (.int .i64 0), .sl [], .sl [], .sc (.int .i64 0), .sc (.int .i64 0), .sc (.int .i64 0), .sc (.int .i64 0), .sc (.int .i64 0), .sc (.int .i64 0), .sc (.string "".toByteArray), .sl [], .sc (.int .i64 0), .sc (.int .i64 0), .sc (.int .i64 0), .sl []], kind := .struct [(0, 15, true), (15, 3, true)] }), (38, { size := 15, bytes := 176, agg := true, zero := [.sc (.bool false), .sc (.int .i64 0), .sc (.int .i64 0), .sc (.int .i64 0), .sl [], .sl [], .sc (.int .i64 0), .sc (.int .i64 0), .sc (.int .i64 0), .sc (.int .i64 0), .sc (.int .i64 0), .sc (.int .i64 0), .sc (.string "".toByteArray), .sl [], .sc (.int .i64 0)], kind := .struct [(0, 1, false), (1, 1, false), (2, 3, true), (5, 1, false), (6, 9, true)] }), (31, { size := 1, bytes := 24, agg := false, zero := [.sl []], kind := .slice 65 }), (65, { size := 8, bytes := 72, agg := true, zero := [.sc (.int .i64 0), .sc (.int .i64 0), .sc (.int .i64 0), .sc (.int .i64 0), .sc (.int .i64 0), .sc (.int .i64 0), .sc (.string "".toByteArray), .sc (.int .i64 0)], kind := .struct [(0, 1, false), (1, 6, true), (7, 1, false)] })]
noncomputable def C_look_tell : Cfg := mkC ty_look_tell [] [] [] [] [0,1,6,9,10,11] [] [(4, [true, true, true, true, true, true, true, true, true, true, false, true, true, true, false])]
theorem E_look_tell : Env1 Go.Proofs.Try.prog C_look_tell := mkC_ok (by kernel_rfl) trivial (by kernel_rfl)
theorem C_look_tell_ty : (C_look_tell).ty = ty_look_tell := rfl
theorem C_look_tell_eqs : (C_look_tell).eqs = [] := rfl
theorem C_look_tell_call : (C_look_tell).call = fun f => (([] : List (Nat × (List DA → Option (List RV)))).lookup f).getD fun _ => none := rfl
theorem C_look_tell_calls : (C_look_tell).calls = [] := rfl
theorem C_look_tell_scal : (C_look_tell).scal = [] := rfl
theorem C_look_tell_owns : (C_look_tell).owns = [] := rfl
theorem C_look_tell_vars : (C_look_tell).vars = [0,1,6,9,10,11] := rfl
theorem C_look_tell_ores : (C_look_tell).ores = [] := rfl
theorem C_look_tell_flags : (C_look_tell).flags = [(4, [true, true, true, true, true, true, true, true, true, true, false, true, true, true, false])] := rfl
theorem C_look_tell_pins : (C_look_tell).pins = [] := rfl
theorem C_look_tell_inls : (C_look_tell).inls = [] := rfl
def T_look_tell : List (Nat × LoopA) := [(0, .un)]
noncomputable def I_look_tell : List V1 → Objs → Option (TV × Objs) := Wi C_look_tell T_look_tell [] Go.Proofs.Try.f40
theorem ic_look_tell : InlC Go.Proofs.Try.prog 40 I_look_tell := inlC_of_W E_look_tell Go.Proofs.Try.func40 rfl rfl
/-! ### hopper/look.get -/
theorem en_look_get : Enters Go.Proofs.Try.prog 29 := ⟨_, Go.Proofs.Try.func29, rfl, rfl⟩
def ty_look_get : List (Nat × TI) := [(26, { size := 3, bytes := 40, agg := true, zero := [.sc (.int .i64 0), .sc (.int .i64 0), .sl []], kind := .struct [(0, 1, false), (1, 1, false), (2, 1, false)] }), (38, { size := 15, bytes := 176, agg := true, zero := [.sc (.bool false), .sc (.int .i64 0), .sc (.int .i64 0), .sc (.int .i64 0), .sl [], .sl [], .sc (.int .i64 0), .sc (.int .i64 0), .sc (.int .i64 0), .sc (.int .i64 0), .sc (.int .i64 0), .sc (.int .i64 0), .sc (.string "".toByteArray), .sl [], .sc (.int .i64 0)], kind := .struct [(0, 1, false), (1, 1, false), (2, 3, true), (5, 1, false), (6, 9, true)] }), (3, { size := 1, bytes := 8, agg := false, zero := [.sc (.int .i64 0)], kind := .int .i64 }), (34, { size := 6, bytes := 56, agg := true, zero := [.sc (.int .i64 0), .sc (.int .i64 0), .sc (.int .i64 0), .sc (.int .i64 0), .sc (.int .i64 0), .sc (.string "".toByteArray)], kind := .struct [(0, 1, false), (1, 1, false), (2, 1, false), (3, 1, false), (4, 1, false), (5, 1, false)] }), (32, { size := 1, bytes := 8, agg := false, zero := [.sc (.int .i64 0)], kind := .int .i64 }), (36, { size := 9, bytes := 96, agg := true, zero := [.sc (.int .i64 0), .sc (.int .i64 0), .sc (.int .i64 0), .sc (.int .i64 0), .sc (.int .i64 0), .sc (.int .i64 0), .sc (.string "".toByteArray), .sl [], .sc (.int .i64 0)], kind := .struct [(0, 1, false), (1, 6, true), (7, 1, false), (8, 1, false)] })]
noncomputable def C_look_get : Cfg := mkC ty_look_get [] [(37, M_queue_Find), (30, M_look_refuse)] [37] [] [] [] []
theorem E_look_get : Env1 Go.Proofs.Try.prog C_look_get := mkC_ok (by kernel_rfl) (⟨⟨en_queue_Find, cc_queue_Find⟩, ⟨⟨en_look_refuse, cc_look_refuse⟩, trivial⟩⟩) (by kernel_rfl)
theorem C_look_get_ty : (C_look_get).ty = ty_look_get := rfl
theorem C_look_get_eqs : (C_look_get).eqs = [] := rfl
theorem C_look_get_call : (C_look_get).call = fun f => (([(37, M_queue_Find), (30, M_look_refuse)] : List (Nat × (List DA → Option (List RV)))).lookup f).getD fun _ => none := rfl
theorem C_look_get_calls : (C_look_get).calls = [37, 30] := rfl
theorem C_look_get_scal : (C_look_get).scal = [37] := rfl
theorem C_look_get_owns : (C_look_get).owns = [] := rfl
theorem C_look_get_vars : (C_look_get).vars = [] := rfl
theorem C_look_get_ores : (C_look_get).ores = [] := rfl
theorem C_look_get_flags : (C_look_get).flags = [] := rfl
theorem C_look_get_pins : (C_look_get).pins = [] := rfl
theorem C_look_get_inls : (C_look_get).inls = [] := rfl
def T_look_get : List (Nat × LoopA) := []
set_option maxHeartbeats 20000000 in
set_option maxRecDepth 100000 in
noncomputable def pk_look_get : { F : Acc → Int → Option (Plan) // CallC Go.Proofs.Try.prog 29 (con2 (eT ceAcc) eInt (fun x0 x1 => (F x0 x1).map (res1 (rAgg cePlan)).enc)) } :=
  ⟨_, cc2 E_look_get Go.Proofs.Try.func29 rfl rfl (T := T_look_get) (G := []) (r := (res1 (rAgg cePlan))) fun x0 x1 => by
    unfold Wf
    simp (maxSteps := 10000000) (implicitDefEqProofs := false) [-evOps, -evOne, -evOp, -evIndexAddr, -evIndex, -evPick, -binV, -evLoad, -evStore, -loadC, -callV, -nilC, -storeC, -toDVs, -toDAs, -resRs, List.lookup, List.replicate, List.range_succ, ty_look_get, C_look_get_ty, C_look_get_eqs, C_look_get_call, C_look_get_calls, C_look_get_scal, C_look_get_owns, C_look_get_vars, C_look_get_ores, C_look_get_flags, C_look_get_pins, C_look_get_inls, T_look_get, Go.Proofs.Try.f29, M_queue_Find, M_look_refuse, iC, uC, bC, sC, Acc.c, Event.c, Plan.c, Result.c, Tx.c]
    try rfl⟩
noncomputable def F_look_get : Acc → Int → Option (Plan) := pk_look_get.1
noncomputable def M_look_get : List DA → Option (List RV) := con2 (eT ceAcc) eInt (fun x0 x1 => (F_look_get x0 x1).map (res1 (rAgg cePlan)).enc)
theorem cc_look_get : CallC Go.Proofs.Try.prog 29 M_look_get := pk_look_get.2
/-! ### hopper/look.Whose -/
theorem en_look_Whose : Enters Go.Proofs.Try.prog 11 := ⟨_, Go.Proofs.Try.func11, rfl, rfl⟩
def ty_look_Whose : List (Nat × TI) := [(40, { size := 5, bytes := 48, agg := true, zero := [.sc (.int .i64 0), .sc (.int .i64 0), .sc (.int .i64 0), .sc (.int .i64 0), .sc (.string "".toByteArray)], kind := .struct [(0, 1, false), (1, 1, false), (2, 1, false), (3, 1, false), (4, 1, false)] }), (3, { size := 1, bytes := 8, agg := false, zero := [.sc (.int .i64 0)], kind := .int .i64 }), (9, { size := 1, bytes := 16, agg := false, zero := [.sc (.string "".toByteArray)], kind := .str }), (34, { size := 6, bytes := 56, agg := true, zero := [.sc (.int .i64 0), .sc (.int .i64 0), .sc (.int .i64 0), .sc (.int .i64 0), .sc (.int .i64 0), .sc (.string "".toByteArray)], kind := .struct [(0, 1, false), (1, 1, false), (2, 1, false), (3, 1, false), (4, 1, false), (5, 1, false)] })]
noncomputable def C_look_Whose : Cfg := mkC ty_look_Whose [] [(34, M_txn_Decode)] [34] [] [] [] []
theorem E_look_Whose : Env1 Go.Proofs.Try.prog C_look_Whose := mkC_ok (by kernel_rfl) (⟨⟨en_txn_Decode, cc_txn_Decode⟩, trivial⟩) (by kernel_rfl)
theorem C_look_Whose_ty : (C_look_Whose).ty = ty_look_Whose := rfl
theorem C_look_Whose_eqs : (C_look_Whose).eqs = [] := rfl
theorem C_look_Whose_call : (C_look_Whose).call = fun f => (([(34, M_txn_Decode)] : List (Nat × (List DA → Option (List RV)))).lookup f).getD fun _ => none := rfl
theorem C_look_Whose_calls : (C_look_Whose).calls = [34] := rfl
theorem C_look_Whose_scal : (C_look_Whose).scal = [34] := rfl
theorem C_look_Whose_owns : (C_look_Whose).owns = [] := rfl
theorem C_look_Whose_vars : (C_look_Whose).vars = [] := rfl
theorem C_look_Whose_ores : (C_look_Whose).ores = [] := rfl
theorem C_look_Whose_flags : (C_look_Whose).flags = [] := rfl
theorem C_look_Whose_pins : (C_look_Whose).pins = [] := rfl
theorem C_look_Whose_inls : (C_look_Whose).inls = [] := rfl
def T_look_Whose : List (Nat × LoopA) := []
set_option maxHeartbeats 20000000 in
set_option maxRecDepth 100000 in
noncomputable def pk_look_Whose : { F : Op → Option (Int × Bool) // CallC Go.Proofs.Try.prog 11 (con1 (eT ceOp) (fun x0 => (F x0).map (res2 rI rB).enc)) } :=
  ⟨_, cc1 E_look_Whose Go.Proofs.Try.func11 rfl rfl (T := T_look_Whose) (G := []) (r := (res2 rI rB)) fun x0 => by
    unfold Wf
    simp (maxSteps := 10000000) (implicitDefEqProofs := false) [-evOps, -evOne, -evOp, -evIndexAddr, -evIndex, -evPick, -binV, -evLoad, -evStore, -loadC, -callV, -nilC, -storeC, -toDVs, -toDAs, -resRs, List.lookup, List.replicate, List.range_succ, ty_look_Whose, C_look_Whose_ty, C_look_Whose_eqs, C_look_Whose_call, C_look_Whose_calls, C_look_Whose_scal, C_look_Whose_owns, C_look_Whose_vars, C_look_Whose_ores, C_look_Whose_flags, C_look_Whose_pins, C_look_Whose_inls, T_look_Whose, Go.Proofs.Try.f11, M_txn_Decode, iC, uC, bC, sC, Op.c, Tx.c]
    try rfl⟩
noncomputable def F_look_Whose : Op → Option (Int × Bool) := pk_look_Whose.1
noncomputable def M_look_Whose : List DA → Option (List RV) := con1 (eT ceOp) (fun x0 => (F_look_Whose x0).map (res2 rI rB).enc)
theorem cc_look_Whose : CallC Go.Proofs.Try.prog 11 M_look_Whose := pk_look_Whose.2
/-! ### hopper/look.Drop -/
theorem en_look_Drop : Enters Go.Proofs.Try.prog 15 := ⟨_, Go.Proofs.Try.func15, rfl, rfl⟩
def ty_look_Drop : List (Nat × TI) := [(26, { size := 3, bytes := 40, agg := true, zero := [.sc (.int .i64 0), .sc (.int .i64 0), .sl []], kind := .struct [(0, 1, false), (1, 1, false), (2, 1, false)] }), (38, { size := 15, bytes := 176, agg := true, zero := [.sc (.bool false), .sc (.int .i64 0), .sc (.int .i64 0), .sc (.int .i64 0), .sl [], .sl [], .sc (.int .i64 0), .sc (.int .i64 0), .sc (.int .i64 0), .sc (.int .i64 0), .sc (.int .i64 0), .sc (.int .i64 0), .sc (.string "".toByteArray), .sl [], .sc (.int .i64 0)], kind := .struct [(0, 1, false), (1, 1, false), (2, 3, true), (5, 1, false), (6, 9, true)] }), (3, { size := 1, bytes := 8, agg := false, zero := [.sc (.int .i64 0)], kind := .int .i64 }), (34, { size := 6, bytes := 56, agg := true, zero := [.sc (.int .i64 0), .sc (.int .i64 0), .sc (.int .i64 0), .sc (.int .i64 0), .sc (.int .i64 0), .sc (.string "".toByteArray)], kind := .struct [(0, 1, false), (1, 1, false), (2, 1, false), (3, 1, false), (4, 1, false), (5, 1, false)] }), (32, { size := 1, bytes := 8, agg := false, zero := [.sc (.int .i64 0)], kind := .int .i64 }), (77, { size := 18, bytes := 216, agg := true, zero := [.sc (.bool false), .sc (.int .i64 0), .sc (.int .i64 0), .sc (.int .i64 0), .sl [], .sl [], .sc (.int .i64 0), .sc (.int .i64 0), .sc (.int .i64 0), .sc (.int .i64 0), .sc (.int .i64 0), .sc (.int .i64 0), .sc (.string "".toByteArray), .sl [], .sc (.int .i64 0), .sc (.int .i64 0), .sc (.int .i64 0), .sl []], kind := .struct [(0, 15, true), (15, 3, true)] }), (75, { size := 1, bytes := 8, agg := false, zero := [.sc (.pointer none)], kind := .ptr 77 }), (24, { size := 1, bytes := 24, agg := false, zero := [.sl []], kind := .slice 34 }), (36, { size := 9, bytes := 96, agg := true, zero := [.sc (.int .i64 0), .sc (.int .i64 0), .sc (.int .i64 0), .sc (.int .i64 0), .sc (.int .i64 0), .sc (.int .i64 0), .sc (.string "".toByteArray), .sl [], .sc (.int .i64 0)], kind := .struct [(0, 1, false), (1, 6, true), (7, 1, false), (8, 1, false)] })]
noncomputable def C0_look_Drop : Cfg := mkP (mkC ty_look_Drop [] [(37, M_queue_Find), (30, M_look_refuse), (39, M_queue_Drop)] [37] [(18, [(5, 65, 8)])] [] [] [(5, [true, true, true, false, false, true, true, false, true, true, false, false])]) [(5, [5])]
noncomputable def C_look_Drop : Cfg := mkI C0_look_Drop [(38, I_look_to), (40, I_look_tell), (41, I_look_answer)]
theorem E0_look_Drop : Env1 Go.Proofs.Try.prog C0_look_Drop := mkP_ok (mkC_ok (by kernel_rfl) (⟨⟨en_queue_Find, cc_queue_Find⟩, ⟨⟨en_look_refuse, cc_look_refuse⟩, ⟨⟨en_queue_Drop, cc_queue_Drop⟩, trivial⟩⟩⟩) (by kernel_rfl))
theorem E_look_Drop : Env1 Go.Proofs.Try.prog C_look_Drop := mkI_ok E0_look_Drop (⟨⟨en_look_to, ic_look_to⟩, ⟨⟨en_look_tell, ic_look_tell⟩, ⟨⟨en_look_answer, ic_look_answer⟩, trivial⟩⟩⟩)
theorem C_look_Drop_ty : (C_look_Drop).ty = ty_look_Drop := rfl
theorem C_look_Drop_eqs : (C_look_Drop).eqs = [] := rfl
theorem C_look_Drop_call : (C_look_Drop).call = fun f => (([(37, M_queue_Find), (30, M_look_refuse), (39, M_queue_Drop)] : List (Nat × (List DA → Option (List RV)))).lookup f).getD fun _ => none := rfl
theorem C_look_Drop_calls : (C_look_Drop).calls = [37, 30, 39] := rfl
theorem C_look_Drop_scal : (C_look_Drop).scal = [37] := rfl
theorem C_look_Drop_owns : (C_look_Drop).owns = [(18, [(5, 65, 8)])] := rfl
theorem C_look_Drop_vars : (C_look_Drop).vars = [] := rfl
theorem C_look_Drop_ores : (C_look_Drop).ores = [] := rfl
theorem C_look_Drop_flags : (C_look_Drop).flags = [(5, [true, true, true, false, false, true, true, false, true, true, false, false])] := rfl
theorem C_look_Drop_pins : (C_look_Drop).pins = [(5, [5])] := rfl
theorem C_look_Drop_inls : (C_look_Drop).inls = [38, 40, 41] := rfl
theorem C_look_Drop_inl : (C_look_Drop).inl = fun f => (([(38, I_look_to), (40, I_look_tell), (41, I_look_answer)] : List (Nat × (List V1 → Objs → Option (TV × Objs)))).lookup f).getD fun _ _ => none := rfl
def T_look_Drop : List (Nat × LoopA) := []
set_option maxHeartbeats 20000000 in
set_option maxRecDepth 100000 in
noncomputable def pk_look_Drop : { F : Acc → Int → Option (Plan) // CallC Go.Proofs.Try.prog 15 (con2 (eT ceAcc) eInt (fun x0 x1 => (F x0 x1).map (res1 (rAgg cePlan)).enc)) } :=
  ⟨_, cc2 E_look_Drop Go.Proofs.Try.func15 rfl rfl (T := T_look_Drop) (G := []) (r := (res1 (rAgg cePlan))) fun x0 x1 => by
    unfold Wf
    simp (maxSteps := 10000000) (implicitDefEqProofs := false) [-evOps, -evOne, -evOp, -evIndexAddr, -evIndex, -evPick, -binV, -evLoad, -evStore, -loadC, -callV, -nilC, -storeC, -toDVs, -toDAs, -resRs, List.lookup, List.replicate, List.range_succ, ty_look_Drop, C_look_Drop_ty, C_look_Drop_eqs, C_look_Drop_call, C_look_Drop_calls, C_look_Drop_scal, C_look_Drop_owns, C_look_Drop_vars, C_look_Drop_ores, C_look_Drop_flags, C_look_Drop_pins, C_look_Drop_inls, C_look_Drop_inl, T_look_Drop, Go.Proofs.Try.f15, M_queue_Find, M_look_refuse, M_queue_Drop, iC, uC, bC, sC, Acc.c, Event.c, Plan.c, Planner.c, Result.c, Tx.c, wrap64, ty_look_to, C_look_to_ty, C_look_to_eqs, C_look_to_call, C_look_to_calls, C_look_to_scal, C_look_to_owns, C_look_to_vars, C_look_to_ores, C_look_to_flags, C_look_to_pins, C_look_to_inls, T_look_to, Go.Proofs.Try.f38, M_queue_Slots, I_look_to, Wi, ty_look_tell, C_look_tell_ty, C_look_tell_eqs, C_look_tell_call, C_look_tell_calls, C_look_tell_scal, C_look_tell_owns, C_look_tell_vars, C_look_tell_ores, C_look_tell_flags, C_look_tell_pins, C_look_tell_inls, T_look_tell, Go.Proofs.Try.f40, I_look_tell, ty_look_answer, C_look_answer_ty, C_look_answer_eqs, C_look_answer_call, C_look_answer_calls, C_look_answer_scal, C_look_answer_owns, C_look_answer_vars, C_look_answer_ores, C_look_answer_flags, C_look_answer_pins, C_look_answer_inls, T_look_answer, Go.Proofs.Try.f41, I_look_answer, mkI]
    try rfl⟩
noncomputable def F_look_Drop : Acc → Int → Option (Plan) := pk_look_Drop.1
noncomputable def M_look_Drop : List DA → Option (List RV) := con2 (eT ceAcc) eInt (fun x0 x1 => (F_look_Drop x0 x1).map (res1 (rAgg cePlan)).enc)
theorem cc_look_Drop : CallC Go.Proofs.Try.prog 15 M_look_Drop := pk_look_Drop.2
/-! ### hopper/look.add -/
theorem en_look_add : Enters Go.Proofs.Try.prog 27 := ⟨_, Go.Proofs.Try.func27, rfl, rfl⟩
def ty_look_add : List (Nat × TI) := [(23, { size := 8, bytes := 64, agg := true, zero := [.sc (.int .i64 0), .sc (.int .i64 0), .sc (.int .i64 0), .sc (.int .i64 0), .sc (.int .i64 0), .sc (.int .i64 0), .sc (.int .i64 0), .sc (.int .i64 0)], kind := .struct [(0, 1, false), (1, 1, false), (2, 1, false), (3, 1, false), (4, 1, false), (5, 1, false), (6, 1, false), (7, 1, false)] }), (26, { size := 3, bytes := 40, agg := true, zero := [.sc (.int .i64 0), .sc (.int .i64 0), .sl []], kind := .struct [(0, 1, false), (1, 1, false), (2, 1, false)] }), (38, { size := 15, bytes := 176, agg := true, zero := [.sc (.bool false), .sc (.int .i64 0), .sc (.int .i64 0), .sc (.int .i64 0), .sl [], .sl [], .sc (.int .i64 0), .sc (.int .i64 0), .sc (.int .i64 0), .sc (.int .i64 0), .sc (.int .i64 0), .sc (.int .i64 0), .sc (.string "".toByteArray), .sl [], .sc (.int .i64 0)], kind := .struct [(0, 1, false), (1, 1, false), (2, 3, true), (5, 1, false), (6, 9, true)] }), (9, { size := 1, bytes := 16, agg := false, zero := [.sc (.string "".toByteArray)], kind := .str }), (34, { size := 6, bytes := 56, agg := true, zero := [.sc (.int .i64 0), .sc (.int .i64 0), .sc (.int .i64 0), .sc (.int .i64 0), .sc (.int .i64 0), .sc (.string "".toByteArray)], kind := .struct [(0, 1, false), (1, 1, false), (2, 1, false), (3, 1, false), (4, 1, false), (5, 1, false)] }), (32, { size := 1, bytes := 8, agg := false, zero := [.sc (.int .i64 0)], kind := .int .i64 }), (3, { size := 1, bytes := 8, agg := false, zero := [.sc (.int .i64 0)], kind := .int .i64 }), (77, { size := 18, bytes := 216, agg := true, zero := [.sc (.bool false), .sc (.int .i64 0), .sc (.int .i64 0), .sc (.int .i64 0), .sl [], .sl [], .sc (.int .i64 0), .sc (.int .i64 0), .sc (.int .i64 0), .sc (.int .i64 0), .sc (.int .i64 0), .sc (.int .i64 0), .sc (.string "".toByteArray), .sl [], .sc (.int .i64 0), .sc (.int .i64 0), .sc (.int .i64 0), .sl []], kind := .struct [(0, 15, true), (15, 3, true)] }), (75, { size := 1, bytes := 8, agg := false, zero := [.sc (.pointer none)], kind := .ptr 77 }), (24, { size := 1, bytes := 24, agg := false, zero := [.sl []], kind := .slice 34 }), (36, { size := 9, bytes := 96, agg := true, zero := [.sc (.int .i64 0), .sc (.int .i64 0), .sc (.int .i64 0), .sc (.int .i64 0), .sc (.int .i64 0), .sc (.int .i64 0), .sc (.string "".toByteArray), .sl [], .sc (.int .i64 0)], kind := .struct [(0, 1, false), (1, 6, true), (7, 1, false), (8, 1, false)] })]
noncomputable def C0_look_add : Cfg := mkP (mkC ty_look_add [] [(34, M_txn_Decode), (30, M_look_refuse), (49, M_queue_Place), (37, M_queue_Find), (50, M_queue_Put)] [34, 49, 37] [(46, [(5, 65, 8)])] [] [] [(12, [true, true, true, false, false, true, true, true, false, true, false, false])]) [(12, [7])]
noncomputable def C_look_add : Cfg := mkI C0_look_add [(38, I_look_to), (40, I_look_tell), (41, I_look_answer)]
theorem E0_look_add : Env1 Go.Proofs.Try.prog C0_look_add := mkP_ok (mkC_ok (by kernel_rfl) (⟨⟨en_txn_Decode, cc_txn_Decode⟩, ⟨⟨en_look_refuse, cc_look_refuse⟩, ⟨⟨en_queue_Place, cc_queue_Place⟩, ⟨⟨en_queue_Find, cc_queue_Find⟩, ⟨⟨en_queue_Put, cc_queue_Put⟩, trivial⟩⟩⟩⟩⟩) (by kernel_rfl))
theorem E_look_add : Env1 Go.Proofs.Try.prog C_look_add := mkI_ok E0_look_add (⟨⟨en_look_to, ic_look_to⟩, ⟨⟨en_look_tell, ic_look_tell⟩, ⟨⟨en_look_answer, ic_look_answer⟩, trivial⟩⟩⟩)
theorem C_look_add_ty : (C_look_add).ty = ty_look_add := rfl
theorem C_look_add_eqs : (C_look_add).eqs = [] := rfl
theorem C_look_add_call : (C_look_add).call = fun f => (([(34, M_txn_Decode), (30, M_look_refuse), (49, M_queue_Place), (37, M_queue_Find), (50, M_queue_Put)] : List (Nat × (List DA → Option (List RV)))).lookup f).getD fun _ => none := rfl
theorem C_look_add_calls : (C_look_add).calls = [34, 30, 49, 37, 50] := rfl
theorem C_look_add_scal : (C_look_add).scal = [34, 49, 37] := rfl
theorem C_look_add_owns : (C_look_add).owns = [(46, [(5, 65, 8)])] := rfl
theorem C_look_add_vars : (C_look_add).vars = [] := rfl
theorem C_look_add_ores : (C_look_add).ores = [] := rfl
theorem C_look_add_flags : (C_look_add).flags = [(12, [true, true, true, false, false, true, true, true, false, true, false, false])] := rfl
theorem C_look_add_pins : (C_look_add).pins = [(12, [7])] := rfl
theorem C_look_add_inls : (C_look_add).inls = [38, 40, 41] := rfl
theorem C_look_add_inl : (C_look_add).inl = fun f => (([(38, I_look_to), (40, I_look_tell), (41, I_look_answer)] : List (Nat × (List V1 → Objs → Option (TV × Objs)))).lookup f).getD fun _ _ => none := rfl
def T_look_add : List (Nat × LoopA) := []
set_option maxHeartbeats 20000000 in
set_option maxRecDepth 100000 in
noncomputable def pk_look_add : { F : Config → Acc → ByteArray → Option (Plan) // CallC Go.Proofs.Try.prog 27 (con3 (eT ceConfig) (eT ceAcc) eStr (fun x0 x1 x2 => (F x0 x1 x2).map (res1 (rAgg cePlan)).enc)) } :=
  ⟨_, cc3 E_look_add Go.Proofs.Try.func27 rfl rfl (T := T_look_add) (G := []) (r := (res1 (rAgg cePlan))) fun x0 x1 x2 => by
    unfold Wf
    simp (maxSteps := 10000000) (implicitDefEqProofs := false) [-evOps, -evOne, -evOp, -evIndexAddr, -evIndex, -evPick, -binV, -evLoad, -evStore, -loadC, -callV, -nilC, -storeC, -toDVs, -toDAs, -resRs, List.lookup, List.replicate, List.range_succ, ty_look_add, C_look_add_ty, C_look_add_eqs, C_look_add_call, C_look_add_calls, C_look_add_scal, C_look_add_owns, C_look_add_vars, C_look_add_ores, C_look_add_flags, C_look_add_pins, C_look_add_inls, C_look_add_inl, T_look_add, Go.Proofs.Try.f27, M_txn_Decode, M_look_refuse, M_queue_Place, M_queue_Find, M_queue_Put, iC, uC, bC, sC, Acc.c, Config.c, Event.c, Plan.c, Planner.c, Result.c, Tx.c, wrap64, ty_look_to, C_look_to_ty, C_look_to_eqs, C_look_to_call, C_look_to_calls, C_look_to_scal, C_look_to_owns, C_look_to_vars, C_look_to_ores, C_look_to_flags, C_look_to_pins, C_look_to_inls, T_look_to, Go.Proofs.Try.f38, M_queue_Slots, I_look_to, Wi, ty_look_tell, C_look_tell_ty, C_look_tell_eqs, C_look_tell_call, C_look_tell_calls, C_look_tell_scal, C_look_tell_owns, C_look_tell_vars, C_look_tell_ores, C_look_tell_flags, C_look_tell_pins, C_look_tell_inls, T_look_tell, Go.Proofs.Try.f40, I_look_tell, ty_look_answer, C_look_answer_ty, C_look_answer_eqs, C_look_answer_call, C_look_answer_calls, C_look_answer_scal, C_look_answer_owns, C_look_answer_vars, C_look_answer_ores, C_look_answer_flags, C_look_answer_pins, C_look_answer_inls, T_look_answer, Go.Proofs.Try.f41, I_look_answer, mkI]
    try rfl⟩
noncomputable def F_look_add : Config → Acc → ByteArray → Option (Plan) := pk_look_add.1
noncomputable def M_look_add : List DA → Option (List RV) := con3 (eT ceConfig) (eT ceAcc) eStr (fun x0 x1 x2 => (F_look_add x0 x1 x2).map (res1 (rAgg cePlan)).enc)
theorem cc_look_add : CallC Go.Proofs.Try.prog 27 M_look_add := pk_look_add.2

end Go.Vm

/- What Go functions come to, as Lean functions: each with its contract. -/
set_option linter.unusedVariables false
set_option linter.unusedSimpArgs false
namespace Go.Vm
open Go Go.RowKit

@[simp] def oNil : Cdc Ob Unit where
  enc _ := .nil
  dec | .nil => some () | _ => none
  ok b a h := by split at h <;> simp at h; rfl
/-! ### (*hopper/look.planner).tell -/
theorem en_look_tell2 : Enters Go.Proofs.Try.prog 40 := ⟨_, Go.Proofs.Try.func40, rfl, rfl⟩
def ty_look_tell2 : List (Nat × TI) := [(24, { size := 1, bytes := 24, agg := false, zero := [.sl []], kind := .slice 34 }), (3, { size := 1, bytes := 8, agg := false, zero := [.sc (.int .i64 0)], kind := .int .i64 }), (34, { size := 6, bytes := 56, agg := true, zero := [.sc (.int .i64 0), .sc (.int .i64 0), .sc (.int .i64 0), .sc (.int .i64 0), .sc (.int .i64 0), .sc (.string "".toByteArray)], kind := .struct [(0, 1, false), (1, 1, false), (2, 1, false), (3, 1, false), (4, 1, false), (5, 1, false)] }), (77, { size := 18, bytes := 216, agg := true, zero := [.sc (.bool false), .sc (.int .i64 0), .sc (.int .i64 0), .sc (.int .i64 0), .sl [], .sl [], .sc (.int .i64 0), .sc (.int .i64 0), .sc (.int .i64 0), .sc (.int .i64 0), .sc (.int .i64 0), .sc (.int .i64 0), .sc (.string "".toByteArray), .sl [], .sc (.int .i64 0), .sc (.int .i64 0), .sc (.int .i64 0), .sl []], kind := .struct [(0, 15, true), (15, 3, true)] }), (38, { size := 15, bytes := 176, agg := true, zero := [.sc (.bool false), .sc (.int .i64 0), .sc (.int .i64 0), .sc (.int .i64 0), .sl [], .sl [], .sc (.int .i64 0), .sc (.int .i64 0), .sc (.int .i64 0), .sc (.int .i64 0), .sc (.int .i64 0), .sc (.int .i64 0), .sc (.string "".toByteArray), .sl [], .sc (.int .i64 0)], kind := .struct [(0, 1, false), (1, 1, false), (2, 3, true), (5, 1, false), (6, 9, true)] }), (31, { size := 1, bytes := 24, agg := false, zero := [.sl []], kind := .slice 65 }), (65, { size := 8, bytes := 72, agg := true, zero := [.sc (.int .i64 0), .sc (.int .i64 0), .sc (.int .i64 0), .sc (.int .i64 0), .sc (.int .i64 0), .sc (.int .i64 0), .sc (.string "".toByteArray), .sc (.int .i64 0)], kind := .struct [(0, 1, false), (1, 6, true), (7, 1, false)] })]
noncomputable def C_look_tell2 : Cfg := mkC ty_look_tell2 [] [] [] [] [0,1,9,10,11] [] [(4, [true, true, true, true, true, true, true, true, true, true, false, true, true, true, false])]
theorem E_look_tell2 : Env1 Go.Proofs.Try.prog C_look_tell2 := mkC_ok (by kernel_rfl) trivial (by kernel_rfl)
theorem C_look_tell2_ty : (C_look_tell2).ty = ty_look_tell2 := rfl
theorem C_look_tell2_eqs : (C_look_tell2).eqs = [] := rfl
theorem C_look_tell2_call : (C_look_tell2).call = fun f => (([] : List (Nat × (List DA → Option (List RV)))).lookup f).getD fun _ => none := rfl
theorem C_look_tell2_calls : (C_look_tell2).calls = [] := rfl
theorem C_look_tell2_scal : (C_look_tell2).scal = [] := rfl
theorem C_look_tell2_owns : (C_look_tell2).owns = [] := rfl
theorem C_look_tell2_vars : (C_look_tell2).vars = [0,1,9,10,11] := rfl
theorem C_look_tell2_ores : (C_look_tell2).ores = [] := rfl
theorem C_look_tell2_flags : (C_look_tell2).flags = [(4, [true, true, true, true, true, true, true, true, true, true, false, true, true, true, false])] := rfl
theorem C_look_tell2_pins : (C_look_tell2).pins = [] := rfl
theorem C_look_tell2_inls : (C_look_tell2).inls = [] := rfl
structure L_look_tell2_0 where
  kind : Int
  v9 : List Tx
  v10 : Int
  v11 : Int
  o0 : Acc
  changes : Bool
  delta : Int
  after_sender : Int
  after_base : Int
  result_err : Int
  result_tx_sender : Int
  result_tx_nonce : Int
  result_tx_tip : Int
  result_tx_cap : Int
  result_tx_gas : Int
  result_tx_data : ByteArray
  result_slots : Int
  o2 : Acc
  o3 : List Event
  plan_changes : Bool
  plan_delta : Int
  plan_after_sender : Int
  plan_after_base : Int
  plan_after_txs : List Tx
  plan_result_err : Int
  plan_result_tx_sender : Int
  plan_result_tx_nonce : Int
  plan_result_tx_tip : Int
  plan_result_tx_cap : Int
  plan_result_tx_gas : Int
  plan_result_tx_data : ByteArray
  plan_result_slots : Int
  a_sender : Int
  a_base : Int
  a_txs : List Tx
def an_look_tell2_0 : Ann := mkAnn (σ := L_look_tell2_0) (lSkip (vOne (cPtr 4 0 0)) <| lCons (vOne cI) <| lSkip vUnk <| lSkip vUnk <| lSkip vUnk <| lSkip vUnk <| lSkip vUnk <| lSkip vUnk <| lSkip vUnk <| lCons (vOne (cSl ceTx)) <| lCons (vOne cI) <| lCons (vOne cI) <| lSkip vUnk <| lSkip vUnk <| lSkip vUnk <| lSkip vUnk <| lSkip vUnk <| lSkip vUnk <| lSkip vUnk <| lSkip vUnk <| lSkip vUnk <| lSkip vUnk <| lSkip vUnk <| lSkip vUnk <| lSkip vUnk <| lSkip vUnk <| lSkip vUnk <| lSkip vUnk <| lSkip vUnk <| lSkip vUnk <| lSkip vUnk <|  lNil) (lCons (oBox 26 (cStr ceAcc)) <| lCons (oBox 38 (lCons cB <| lCons cI <| lCons cI <| lCons cI <| lSkip cNil <| lSkip cNil <| lCons cI <| lCons cI <| lCons cI <| lCons cI <| lCons cI <| lCons cI <| lCons cS <| lSkip cNil <| lCons cI <|  lNil)) <| lCons (oBox 26 (cStr ceAcc)) <| lCons (oArr 65 8 ceEvent) <| lCons (oBox 77 (lCons cB <| lCons cI <| lCons cI <| lCons cI <| lCons (cSl ceTx) <| lCons (cOwn 3) <| lCons cI <| lCons cI <| lCons cI <| lCons cI <| lCons cI <| lCons cI <| lCons cS <| lSkip cNil <| lCons cI <| lCons cI <| lCons cI <| lCons (cSl ceTx) <|  lNil)) <| lSkip oNil <|  lNil)
  (fun a b => L_look_tell2_0.mk (a.1) (a.2.1) (a.2.2.1) (a.2.2.2.1) (b.1) (b.2.1.1) (b.2.1.2.1) (b.2.1.2.2.1) (b.2.1.2.2.2.1) (b.2.1.2.2.2.2.1) (b.2.1.2.2.2.2.2.1) (b.2.1.2.2.2.2.2.2.1) (b.2.1.2.2.2.2.2.2.2.1) (b.2.1.2.2.2.2.2.2.2.2.1) (b.2.1.2.2.2.2.2.2.2.2.2.1) (b.2.1.2.2.2.2.2.2.2.2.2.2.1) (b.2.1.2.2.2.2.2.2.2.2.2.2.2.1) (b.2.2.1) (b.2.2.2.1) (b.2.2.2.2.1.1) (b.2.2.2.2.1.2.1) (b.2.2.2.2.1.2.2.1) (b.2.2.2.2.1.2.2.2.1) (b.2.2.2.2.1.2.2.2.2.1) (b.2.2.2.2.1.2.2.2.2.2.2.1) (b.2.2.2.2.1.2.2.2.2.2.2.2.1) (b.2.2.2.2.1.2.2.2.2.2.2.2.2.1) (b.2.2.2.2.1.2.2.2.2.2.2.2.2.2.1) (b.2.2.2.2.1.2.2.2.2.2.2.2.2.2.2.1) (b.2.2.2.2.1.2.2.2.2.2.2.2.2.2.2.2.1) (b.2.2.2.2.1.2.2.2.2.2.2.2.2.2.2.2.2.1) (b.2.2.2.2.1.2.2.2.2.2.2.2.2.2.2.2.2.2.1) (b.2.2.2.2.1.2.2.2.2.2.2.2.2.2.2.2.2.2.2.1) (b.2.2.2.2.1.2.2.2.2.2.2.2.2.2.2.2.2.2.2.2.1) (b.2.2.2.2.1.2.2.2.2.2.2.2.2.2.2.2.2.2.2.2.2.1)) (fun s => (s.kind, s.v9, s.v10, s.v11, ())) (fun s => (s.o0, (s.changes, s.delta, s.after_sender, s.after_base, s.result_err, s.result_tx_sender, s.result_tx_nonce, s.result_tx_tip, s.result_tx_cap, s.result_tx_gas, s.result_tx_data, s.result_slots, ()), s.o2, s.o3, (s.plan_changes, s.plan_delta, s.plan_after_sender, s.plan_after_base, s.plan_after_txs, s.o3.length, s.plan_result_err, s.plan_result_tx_sender, s.plan_result_tx_nonce, s.plan_result_tx_tip, s.plan_result_tx_cap, s.plan_result_tx_gas, s.plan_result_tx_data, s.plan_result_slots, s.a_sender, s.a_base, s.a_txs, ()), ())) (fun a b => decide (b.2.2.2.2.1.2.2.2.2.2.1 = (b.2.2.2.1).length)) (by rintro ⟨a0, a1, a2, a3, _⟩ ⟨b0, ⟨c1_0, c1_1, c1_2, c1_3, c1_4, c1_5, c1_6, c1_7, c1_8, c1_9, c1_10, c1_11, _⟩, b2, b3, ⟨c4_0, c4_1, c4_2, c4_3, c4_4, c4_5, c4_6, c4_7, c4_8, c4_9, c4_10, c4_11, c4_12, c4_13, c4_14, c4_15, c4_16, _⟩, _⟩ h; simp at h; simp [h])
theorem an_look_tell2_0_st (s : an_look_tell2_0.σ) : an_look_tell2_0.st s = ([.v (.one (.ptr 4 0 0)), .v (.one (.d (.sc (.int .i64 (L_look_tell2_0.kind s))))), .unk, .unk, .unk, .unk, .unk, .unk, .unk, .v (.one (.d (.sl ((L_look_tell2_0.v9 s).map Tx.c)))), .v (.one (.d (.sc (.int .i64 (L_look_tell2_0.v10 s))))), .v (.one (.d (.sc (.int .i64 (L_look_tell2_0.v11 s))))), .unk, .unk, .unk, .unk, .unk, .unk, .unk, .unk, .unk, .unk, .unk, .unk, .unk, .unk, .unk, .unk, .unk, .unk, .unk], [.box 26 (ddv (Acc.c (L_look_tell2_0.o0 s))), .box 38 [.d (.sc (.bool (L_look_tell2_0.changes s))), .d (.sc (.int .i64 (L_look_tell2_0.delta s))), .d (.sc (.int .i64 (L_look_tell2_0.after_sender s))), .d (.sc (.int .i64 (L_look_tell2_0.after_base s))), .nil, .nil, .d (.sc (.int .i64 (L_look_tell2_0.result_err s))), .d (.sc (.int .i64 (L_look_tell2_0.result_tx_sender s))), .d (.sc (.int .i64 (L_look_tell2_0.result_tx_nonce s))), .d (.sc (.int .i64 (L_look_tell2_0.result_tx_tip s))), .d (.sc (.int .i64 (L_look_tell2_0.result_tx_cap s))), .d (.sc (.int .i64 (L_look_tell2_0.result_tx_gas s))), .d (.sc (.string (L_look_tell2_0.result_tx_data s))), .nil, .d (.sc (.int .i64 (L_look_tell2_0.result_slots s)))], .box 26 (ddv (Acc.c (L_look_tell2_0.o2 s))), .arr 65 8 ((L_look_tell2_0.o3 s).map Event.c), .box 77 [.d (.sc (.bool (L_look_tell2_0.plan_changes s))), .d (.sc (.int .i64 (L_look_tell2_0.plan_delta s))), .d (.sc (.int .i64 (L_look_tell2_0.plan_after_sender s))), .d (.sc (.int .i64 (L_look_tell2_0.plan_after_base s))), .d (.sl ((L_look_tell2_0.plan_after_txs s).map Tx.c)), .own 3 (L_look_tell2_0.o3 s).length, .d (.sc (.int .i64 (L_look_tell2_0.plan_result_err s))), .d (.sc (.int .i64 (L_look_tell2_0.plan_result_tx_sender s))), .d (.sc (.int .i64 (L_look_tell2_0.plan_result_tx_nonce s))), .d (.sc (.int .i64 (L_look_tell2_0.plan_result_tx_tip s))), .d (.sc (.int .i64 (L_look_tell2_0.plan_result_tx_cap s))), .d (.sc (.int .i64 (L_look_tell2_0.plan_result_tx_gas s))), .d (.sc (.string (L_look_tell2_0.plan_result_tx_data s))), .nil, .d (.sc (.int .i64 (L_look_tell2_0.plan_result_slots s))), .d (.sc (.int .i64 (L_look_tell2_0.a_sender s))), .d (.sc (.int .i64 (L_look_tell2_0.a_base s))), .d (.sl ((L_look_tell2_0.a_txs s).map Tx.c))], .nil]) := rfl
set_option maxHeartbeats 4000000 in
set_option maxRecDepth 100000 in
theorem an_look_tell2_0_un {β : Type} (kind : Int) (p_v9 : List (List DV)) (v10 : Int) (v11 : Int) (p_o0 : List CV) (changes : Bool) (delta : Int) (after_sender : Int) (after_base : Int) (result_err : Int) (result_tx_sender : Int) (result_tx_nonce : Int) (result_tx_tip : Int) (result_tx_cap : Int) (result_tx_gas : Int) (result_tx_data : ByteArray) (result_slots : Int) (p_o2 : List CV) (p_o3 : List (List DV)) (plan_changes : Bool) (plan_delta : Int) (plan_after_sender : Int) (plan_after_base : Int) (p_plan_after_txs : List (List DV)) (m1_o3 : Nat) (plan_result_err : Int) (plan_result_tx_sender : Int) (plan_result_tx_nonce : Int) (plan_result_tx_tip : Int) (plan_result_tx_cap : Int) (plan_result_tx_gas : Int) (plan_result_tx_data : ByteArray) (plan_result_slots : Int) (a_sender : Int) (a_base : Int) (p_a_txs : List (List DV)) (f_ : an_look_tell2_0.σ → Option β) : (an_look_tell2_0.un [.v (.one (.ptr 4 0 0)), .v (.one (.d (.sc (.int .i64 kind)))), .unk, .unk, .unk, .unk, .unk, .unk, .unk, .v (.one (.d (.sl p_v9))), .v (.one (.d (.sc (.int .i64 v10)))), .v (.one (.d (.sc (.int .i64 v11)))), .unk, .unk, .unk, .unk, .unk, .unk, .unk, .unk, .unk, .unk, .unk, .unk, .unk, .unk, .unk, .unk, .unk, .unk, .unk] [.box 26 p_o0, .box 38 [.d (.sc (.bool changes)), .d (.sc (.int .i64 delta)), .d (.sc (.int .i64 after_sender)), .d (.sc (.int .i64 after_base)), .nil, .nil, .d (.sc (.int .i64 result_err)), .d (.sc (.int .i64 result_tx_sender)), .d (.sc (.int .i64 result_tx_nonce)), .d (.sc (.int .i64 result_tx_tip)), .d (.sc (.int .i64 result_tx_cap)), .d (.sc (.int .i64 result_tx_gas)), .d (.sc (.string result_tx_data)), .nil, .d (.sc (.int .i64 result_slots))], .box 26 p_o2, .arr 65 8 p_o3, .box 77 [.d (.sc (.bool plan_changes)), .d (.sc (.int .i64 plan_delta)), .d (.sc (.int .i64 plan_after_sender)), .d (.sc (.int .i64 plan_after_base)), .d (.sl p_plan_after_txs), .own 3 m1_o3, .d (.sc (.int .i64 plan_result_err)), .d (.sc (.int .i64 plan_result_tx_sender)), .d (.sc (.int .i64 plan_result_tx_nonce)), .d (.sc (.int .i64 plan_result_tx_tip)), .d (.sc (.int .i64 plan_result_tx_cap)), .d (.sc (.int .i64 plan_result_tx_gas)), .d (.sc (.string plan_result_tx_data)), .nil, .d (.sc (.int .i64 plan_result_slots)), .d (.sc (.int .i64 a_sender)), .d (.sc (.int .i64 a_base)), .d (.sl p_a_txs)], .nil]).bind f_ = (decL dTx p_v9).bind fun v9 => ((allD p_o0).bind dAcc).bind fun o0 => ((allD p_o2).bind dAcc).bind fun o2 => (decL dEvent p_o3).bind fun o3 => (decL dTx p_plan_after_txs).bind fun plan_after_txs => (decL dTx p_a_txs).bind fun a_txs => (if m1_o3 = o3.length then f_ (L_look_tell2_0.mk kind v9 v10 v11 o0 changes delta after_sender after_base result_err result_tx_sender result_tx_nonce result_tx_tip result_tx_cap result_tx_gas result_tx_data result_slots o2 o3 plan_changes plan_delta plan_after_sender plan_after_base plan_after_txs plan_result_err plan_result_tx_sender plan_result_tx_nonce plan_result_tx_tip plan_result_tx_cap plan_result_tx_gas plan_result_tx_data plan_result_slots a_sender a_base a_txs) else none) :=
  (mkAnn_un (σ := L_look_tell2_0) _ _ _ _ _ _ _ _ _ f_).trans (by simp [Option.bind_assoc, bind_ite])
def T_look_tell2 : List (Nat × LoopA) := [(0, .tr an_look_tell2_0)]
noncomputable def I_look_tell2 : List V1 → Objs → Option (TV × Objs) := Wi C_look_tell2 T_look_tell2 [] Go.Proofs.Try.f40
theorem ic_look_tell2 : InlC Go.Proofs.Try.prog 40 I_look_tell2 := inlC_of_W E_look_tell2 Go.Proofs.Try.func40 rfl rfl
/-! ### hopper/look.advance -/
theorem en_look_advance : Enters Go.Proofs.Try.prog 28 := ⟨_, Go.Proofs.Try.func28, rfl, rfl⟩
def ty_look_advance : List (Nat × TI) := [(26, { size := 3, bytes := 40, agg := true, zero := [.sc (.int .i64 0), .sc (.int .i64 0), .sl []], kind := .struct [(0, 1, false), (1, 1, false), (2, 1, false)] }), (38, { size := 15, bytes := 176, agg := true, zero := [.sc (.bool false), .sc (.int .i64 0), .sc (.int .i64 0), .sc (.int .i64 0), .sl [], .sl [], .sc (.int .i64 0), .sc (.int .i64 0), .sc (.int .i64 0), .sc (.int .i64 0), .sc (.int .i64 0), .sc (.int .i64 0), .sc (.string "".toByteArray), .sl [], .sc (.int .i64 0)], kind := .struct [(0, 1, false), (1, 1, false), (2, 3, true), (5, 1, false), (6, 9, true)] }), (3, { size := 1, bytes := 8, agg := false, zero := [.sc (.int .i64 0)], kind := .int .i64 }), (32, { size := 1, bytes := 8, agg := false, zero := [.sc (.int .i64 0)], kind := .int .i64 }), (77, { size := 18, bytes := 216, agg := true, zero := [.sc (.bool false), .sc (.int .i64 0), .sc (.int .i64 0), .sc (.int .i64 0), .sl [], .sl [], .sc (.int .i64 0), .sc (.int .i64 0), .sc (.int .i64 0), .sc (.int .i64 0), .sc (.int .i64 0), .sc (.int .i64 0), .sc (.string "".toByteArray), .sl [], .sc (.int .i64 0), .sc (.int .i64 0), .sc (.int .i64 0), .sl []], kind := .struct [(0, 15, true), (15, 3, true)] }), (75, { size := 1, bytes := 8, agg := false, zero := [.sc (.pointer none)], kind := .ptr 77 }), (24, { size := 1, bytes := 24, agg := false, zero := [.sl []], kind := .slice 34 }), (4, { size := 1, bytes := 1, agg := false, zero := [.sc (.bool false)], kind := .bool }), (36, { size := 9, bytes := 96, agg := true, zero := [.sc (.int .i64 0), .sc (.int .i64 0), .sc (.int .i64 0), .sc (.int .i64 0), .sc (.int .i64 0), .sc (.int .i64 0), .sc (.string "".toByteArray), .sl [], .sc (.int .i64 0)], kind := .struct [(0, 1, false), (1, 6, true), (7, 1, false), (8, 1, false)] }), (34, { size := 6, bytes := 56, agg := true, zero := [.sc (.int .i64 0), .sc (.int .i64 0), .sc (.int .i64 0), .sc (.int .i64 0), .sc (.int .i64 0), .sc (.string "".toByteArray)], kind := .struct [(0, 1, false), (1, 1, false), (2, 1, false), (3, 1, false), (4, 1, false), (5, 1, false)] })]
noncomputable def C0_look_advance : Cfg := mkC ty_look_advance [] [(30, M_look_refuse), (51, M_queue_Advance)] [] [(30, [(5, 65, 8)])] [] [] []
noncomputable def C_look_advance : Cfg := mkI C0_look_advance [(38, I_look_to), (40, I_look_tell2), (41, I_look_answer)]
theorem E0_look_advance : Env1 Go.Proofs.Try.prog C0_look_advance := mkC_ok (by kernel_rfl) (⟨⟨en_look_refuse, cc_look_refuse⟩, ⟨⟨en_queue_Advance, cc_queue_Advance⟩, trivial⟩⟩) (by kernel_rfl)
theorem E_look_advance : Env1 Go.Proofs.Try.prog C_look_advance := mkI_ok E0_look_advance (⟨⟨en_look_to, ic_look_to⟩, ⟨⟨en_look_tell2, ic_look_tell2⟩, ⟨⟨en_look_answer, ic_look_answer⟩, trivial⟩⟩⟩)
theorem C_look_advance_ty : (C_look_advance).ty = ty_look_advance := rfl
theorem C_look_advance_eqs : (C_look_advance).eqs = [] := rfl
theorem C_look_advance_call : (C_look_advance).call = fun f => (([(30, M_look_refuse), (51, M_queue_Advance)] : List (Nat × (List DA → Option (List RV)))).lookup f).getD fun _ => none := rfl
theorem C_look_advance_calls : (C_look_advance).calls = [30, 51] := rfl
theorem C_look_advance_scal : (C_look_advance).scal = [] := rfl
theorem C_look_advance_owns : (C_look_advance).owns = [(30, [(5, 65, 8)])] := rfl
theorem C_look_advance_vars : (C_look_advance).vars = [] := rfl
theorem C_look_advance_ores : (C_look_advance).ores = [] := rfl
theorem C_look_advance_flags : (C_look_advance).flags = [] := rfl
theorem C_look_advance_pins : (C_look_advance).pins = [] := rfl
theorem C_look_advance_inls : (C_look_advance).inls = [38, 40, 41] := rfl
theorem C_look_advance_inl : (C_look_advance).inl = fun f => (([(38, I_look_to), (40, I_look_tell2), (41, I_look_answer)] : List (Nat × (List V1 → Objs → Option (TV × Objs)))).lookup f).getD fun _ _ => none := rfl
def T_look_advance : List (Nat × LoopA) := []
set_option maxHeartbeats 20000000 in
set_option maxRecDepth 100000 in
noncomputable def pk_look_advance : { F : Acc → Int → Option (Plan) // CallC Go.Proofs.Try.prog 28 (con2 (eT ceAcc) eInt (fun x0 x1 => (F x0 x1).map (res1 (rAgg cePlan)).enc)) } :=
  ⟨_, cc2 E_look_advance Go.Proofs.Try.func28 rfl rfl (T := T_look_advance) (G := []) (r := (res1 (rAgg cePlan))) fun x0 x1 => by
    unfold Wf
    simp (maxSteps := 10000000) (implicitDefEqProofs := false) [-evOps, -evOne, -evOp, -evIndexAddr, -evIndex, -evPick, -binV, -evLoad, -evStore, -loadC, -callV, -nilC, -storeC, -toDVs, -toDAs, -resRs, List.lookup, List.replicate, List.range_succ, ty_look_advance, C_look_advance_ty, C_look_advance_eqs, C_look_advance_call, C_look_advance_calls, C_look_advance_scal, C_look_advance_owns, C_look_advance_vars, C_look_advance_ores, C_look_advance_flags, C_look_advance_pins, C_look_advance_inls, C_look_advance_inl, T_look_advance, Go.Proofs.Try.f28, M_look_refuse, M_queue_Advance, iC, uC, bC, sC, Acc.c, Event.c, Plan.c, Planner.c, Result.c, Tx.c, ty_look_to, C_look_to_ty, C_look_to_eqs, C_look_to_call, C_look_to_calls, C_look_to_scal, C_look_to_owns, C_look_to_vars, C_look_to_ores, C_look_to_flags, C_look_to_pins, C_look_to_inls, T_look_to, Go.Proofs.Try.f38, M_queue_Slots, I_look_to, Wi, ty_look_tell2, C_look_tell2_ty, C_look_tell2_eqs, C_look_tell2_call, C_look_tell2_calls, C_look_tell2_scal, C_look_tell2_owns, C_look_tell2_vars, C_look_tell2_ores, C_look_tell2_flags, C_look_tell2_pins, C_look_tell2_inls, T_look_tell2, Go.Proofs.Try.f40, an_look_tell2_0_st, an_look_tell2_0_un, I_look_tell2, ty_look_answer, C_look_answer_ty, C_look_answer_eqs, C_look_answer_call, C_look_answer_calls, C_look_answer_scal, C_look_answer_owns, C_look_answer_vars, C_look_answer_ores, C_look_answer_flags, C_look_answer_pins, C_look_answer_inls, T_look_answer, Go.Proofs.Try.f41, I_look_answer, mkI]
    try rfl⟩
noncomputable def F_look_advance : Acc → Int → Option (Plan) := pk_look_advance.1
noncomputable def M_look_advance : List DA → Option (List RV) := con2 (eT ceAcc) eInt (fun x0 x1 => (F_look_advance x0 x1).map (res1 (rAgg cePlan)).enc)
theorem cc_look_advance : CallC Go.Proofs.Try.prog 28 M_look_advance := pk_look_advance.2
/-! ### hopper/look.Look -/
theorem en_look_Look : Enters Go.Proofs.Try.prog 9 := ⟨_, Go.Proofs.Try.func9, rfl, rfl⟩
def ty_look_Look : List (Nat × TI) := [(23, { size := 8, bytes := 64, agg := true, zero := [.sc (.int .i64 0), .sc (.int .i64 0), .sc (.int .i64 0), .sc (.int .i64 0), .sc (.int .i64 0), .sc (.int .i64 0), .sc (.int .i64 0), .sc (.int .i64 0)], kind := .struct [(0, 1, false), (1, 1, false), (2, 1, false), (3, 1, false), (4, 1, false), (5, 1, false), (6, 1, false), (7, 1, false)] }), (26, { size := 3, bytes := 40, agg := true, zero := [.sc (.int .i64 0), .sc (.int .i64 0), .sl []], kind := .struct [(0, 1, false), (1, 1, false), (2, 1, false)] }), (40, { size := 5, bytes := 48, agg := true, zero := [.sc (.int .i64 0), .sc (.int .i64 0), .sc (.int .i64 0), .sc (.int .i64 0), .sc (.string "".toByteArray)], kind := .struct [(0, 1, false), (1, 1, false), (2, 1, false), (3, 1, false), (4, 1, false)] }), (38, { size := 15, bytes := 176, agg := true, zero := [.sc (.bool false), .sc (.int .i64 0), .sc (.int .i64 0), .sc (.int .i64 0), .sl [], .sl [], .sc (.int .i64 0), .sc (.int .i64 0), .sc (.int .i64 0), .sc (.int .i64 0), .sc (.int .i64 0), .sc (.int .i64 0), .sc (.string "".toByteArray), .sl [], .sc (.int .i64 0)], kind := .struct [(0, 1, false), (1, 1, false), (2, 3, true), (5, 1, false), (6, 9, true)] }), (3, { size := 1, bytes := 8, agg := false, zero := [.sc (.int .i64 0)], kind := .int .i64 }), (9, { size := 1, bytes := 16, agg := false, zero := [.sc (.string "".toByteArray)], kind := .str }), (32, { size := 1, bytes := 8, agg := false, zero := [.sc (.int .i64 0)], kind := .int .i64 })]
noncomputable def C_look_Look : Cfg := mkC ty_look_Look [] [(27, M_look_add), (15, M_look_Drop), (28, M_look_advance), (29, M_look_get), (30, M_look_refuse)] [] [] [] [] []
theorem E_look_Look : Env1 Go.Proofs.Try.prog C_look_Look := mkC_ok (by kernel_rfl) (⟨⟨en_look_add, cc_look_add⟩, ⟨⟨en_look_Drop, cc_look_Drop⟩, ⟨⟨en_look_advance, cc_look_advance⟩, ⟨⟨en_look_get, cc_look_get⟩, ⟨⟨en_look_refuse, cc_look_refuse⟩, trivial⟩⟩⟩⟩⟩) (by kernel_rfl)
theorem C_look_Look_ty : (C_look_Look).ty = ty_look_Look := rfl
theorem C_look_Look_eqs : (C_look_Look).eqs = [] := rfl
theorem C_look_Look_call : (C_look_Look).call = fun f => (([(27, M_look_add), (15, M_look_Drop), (28, M_look_advance), (29, M_look_get), (30, M_look_refuse)] : List (Nat × (List DA → Option (List RV)))).lookup f).getD fun _ => none := rfl
theorem C_look_Look_calls : (C_look_Look).calls = [27, 15, 28, 29, 30] := rfl
theorem C_look_Look_scal : (C_look_Look).scal = [] := rfl
theorem C_look_Look_owns : (C_look_Look).owns = [] := rfl
theorem C_look_Look_vars : (C_look_Look).vars = [] := rfl
theorem C_look_Look_ores : (C_look_Look).ores = [] := rfl
theorem C_look_Look_flags : (C_look_Look).flags = [] := rfl
theorem C_look_Look_pins : (C_look_Look).pins = [] := rfl
theorem C_look_Look_inls : (C_look_Look).inls = [] := rfl
def T_look_Look : List (Nat × LoopA) := []
set_option maxHeartbeats 20000000 in
set_option maxRecDepth 100000 in
noncomputable def pk_look_Look : { F : Config → Acc → Op → Option (Plan) // CallC Go.Proofs.Try.prog 9 (con3 (eT ceConfig) (eT ceAcc) (eT ceOp) (fun x0 x1 x2 => (F x0 x1 x2).map (res1 (rAgg cePlan)).enc)) } :=
  ⟨_, cc3 E_look_Look Go.Proofs.Try.func9 rfl rfl (T := T_look_Look) (G := []) (r := (res1 (rAgg cePlan))) fun x0 x1 x2 => by
    unfold Wf
    simp (maxSteps := 10000000) (implicitDefEqProofs := false) [-evOps, -evOne, -evOp, -evIndexAddr, -evIndex, -evPick, -binV, -evLoad, -evStore, -loadC, -callV, -nilC, -storeC, -toDVs, -toDAs, -resRs, List.lookup, List.replicate, List.range_succ, ty_look_Look, C_look_Look_ty, C_look_Look_eqs, C_look_Look_call, C_look_Look_calls, C_look_Look_scal, C_look_Look_owns, C_look_Look_vars, C_look_Look_ores, C_look_Look_flags, C_look_Look_pins, C_look_Look_inls, T_look_Look, Go.Proofs.Try.f9, M_look_add, M_look_Drop, M_look_advance, M_look_get, M_look_refuse, iC, uC, bC, sC, Acc.c, Config.c, Event.c, Op.c, Plan.c, Result.c, Tx.c]
    try rfl⟩
noncomputable def F_look_Look : Config → Acc → Op → Option (Plan) := pk_look_Look.1
noncomputable def M_look_Look : List DA → Option (List RV) := con3 (eT ceConfig) (eT ceAcc) (eT ceOp) (fun x0 x1 x2 => (F_look_Look x0 x1 x2).map (res1 (rAgg cePlan)).enc)
theorem cc_look_Look : CallC Go.Proofs.Try.prog 9 M_look_Look := pk_look_Look.2

end Go.Vm
