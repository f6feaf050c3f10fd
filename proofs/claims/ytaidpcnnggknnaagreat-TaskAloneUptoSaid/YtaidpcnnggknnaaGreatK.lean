/- strings.Builder: its copy check, in place. -/
import Derived.Test.YtaidpcnnggknnaaGreatVd
import Derived.Shelf.Strings.Builder1
import Derived.Test.YtaidpcnnggknnaaGreatProg
import Derived.WalkKit
import Derived.Lib.Walk
import Derived.Lib.Overlaps
import Derived.Lib.AppendZerosOnto
import Derived.Laws.CopyRow
import Derived.Shelf.Spec.SlicesInsert
import Derived.RangeFuncBox
import Derived.RangeFuncNested
import Derived.RangeFuncLeaves
import Derived.Shelf.Abstract
import Derived.OwnWalkIn
import Derived.TacticsInMore
import Derived.LoopNIn
import Derived.LoopIn
import Derived.Maps.OwnIn

set_option linter.unusedVariables false
set_option linter.unusedSimpArgs false
namespace Go.Vm
open Go Go.RowKit Go.Shelf Go.Proofs

def bRen : Ren where
  f := fun k => if k = 240 then 203 else if k = 276 then 209 else 0
  t := fun k => if k = 70 then 235 else if k = 72 then 237 else if k = 37 then 165 else if k = 164 then 250 else k
  g := id

theorem bAgg {t : TypeId} {b : Bool} (h : (Go.Proofs.Tryz.prog.underlying t).map isAggD = some b) : ∀ w, (isAgg t).run Go.Proofs.Tryz.prog w = .ok b w := by
  intro w
  obtain ⟨d, hd, rfl⟩ := Option.map_eq_some_iff.1 h
  exact run_isAgg hd w
theorem bSize {t : TypeId} {n : Nat} (h : (Go.Proofs.Tryz.prog.info? t).map (·.size) = some n) : ∀ w, (Go.sizeOf t).run Go.Proofs.Tryz.prog w = .ok n w := by
  intro w
  obtain ⟨i, hi, hs⟩ := Option.map_eq_some_iff.1 h
  simp [sizeOf, typeInfo, hi, hs]
theorem bZero {t : TypeId} {z : Value} (h : (Go.Proofs.Tryz.prog.info? t).bind (·.zero) = some z) : ∀ w, (zeroValue t).run Go.Proofs.Tryz.prog w = .ok z w := by
  intro w
  obtain ⟨i, hi, hs⟩ := Option.bind_eq_some_iff.1 h
  simp [zeroValue, typeInfo, hi, hs]

set_option maxRecDepth 100000 in
theorem bLays : Lays.n240 Go.Proofs.Tryz.prog bRen where
  mixed := by kernel_rfl
  f240 := by kernel_rfl
  f276 := by kernel_rfl
  t0 := by kernel_rfl
  a0 := bAgg (by kernel_rfl)
  z0 := bSize (by kernel_rfl)
  v0 := bZero (by kernel_rfl)
  t4 := by kernel_rfl
  a4 := bAgg (by kernel_rfl)
  z4 := bSize (by kernel_rfl)
  v4 := bZero (by kernel_rfl)
  t9 := by kernel_rfl
  a9 := bAgg (by kernel_rfl)
  z9 := bSize (by kernel_rfl)
  v9 := bZero (by kernel_rfl)
  t20 := by kernel_rfl
  a20 := bAgg (by kernel_rfl)
  z20 := bSize (by kernel_rfl)
  v20 := bZero (by kernel_rfl)
  t70 := by kernel_rfl
  a70 := bAgg (by kernel_rfl)
  z70 := bSize (by kernel_rfl)
  v70 := bZero (by kernel_rfl)
  t72 := by kernel_rfl
  a72 := bAgg (by kernel_rfl)
  z72 := bSize (by kernel_rfl)
  v72 := bZero (by kernel_rfl)
  t164 := by kernel_rfl
  a164 := bAgg (by kernel_rfl)
  z164 := bSize (by kernel_rfl)
  v164 := bZero (by kernel_rfl)

theorem bX72 : Builder.X72 Go.Proofs.Tryz.prog bRen where
  sizeBuilder := by kernel_rfl
  liesBuilder := by kernel_rfl

def I_k02 : List V1 → Objs → Option (TV × Objs)
  | [.one (.ptr id n off)], objs => match objs[id]? with
    | some (.box t [c0, c1]) => if t = 237 ∧ off = 0 ∧ n = 0 then match c0 with
        | .d (.sc (.pointer none)) => some (.tup [], objs.set id (.box t [.ptr id 0 0, c1]))
        | .ptr id' n' off' => if id' = id ∧ n' = 0 ∧ off' = 0 then some (.tup [], objs) else none
        | _ => none
      else none
    | _ => none
  | _, _ => none

theorem en_k02 : Enters Go.Proofs.Tryz.prog 203 := ⟨_, Go.Proofs.Tryz.func203, rfl, rfl⟩

theorem ic_k02 : InlC Go.Proofs.Tryz.prog 203 I_k02 := by
  intro Φ θ base w objs vs args v objs' hs ha h
  unfold I_k02 at h
  split at h
  case h_2 => cases h
  case h_1 id n off =>
  split at h
  case h_2 => cases h
  case h_1 t c0 c1 hob =>
  split at h
  case isFalse => cases h
  case isTrue hc =>
  obtain ⟨rfl, rfl, rfl⟩ := hc
  obtain ⟨u, us, rfl, hu, hus⟩ := ha.cons_left
  have := hus.nil_left; subst this
  obtain ⟨b, arr, hθ, hge, hh, hcells, hno⟩ := hs.ob id _ hob
  obtain ⟨b', hb', hv⟩ := ptr_val (Φ := Φ) hu (m := 0) (Lr_of hob) rfl
  rw [hθ] at hb'
  have : b = b' := by simpa [pblk] using hb'
  subst this
  subst hv
  obtain ⟨u0, l0, harr, h0, hl0⟩ := hcells.cons_left
  obtain ⟨u1, l1, rfl, h1, hl1⟩ := hl0.cons_left
  have := hl1.nil_left; subst this
  have harr : arr = #[u0, u1] := by rw [← Array.toArray_toList (xs := arr), harr]
  subst harr
  have hcell0 : w.cell? ⟨b, 0, none⟩ = some u0 := by rw [Lib.cell_of_heap hh]; rfl
  split at h
  case h_3 => cases h
  case h_1 =>
    simp only [Option.some.injEq, Prod.mk.injEq] at h
    obtain ⟨rfl, rfl⟩ := h
    have hu0 : u0 = .pointer none := (den_sc h0).1
    subst hu0
    have hsh : w.shape? b = some (bRen.t 72, 2) := by simp [World.shape?, hh, bRen]
    refine (Any.Builder_copyCheck_fresh bLays bX72 b w hcell0 hsh (Lib.frozen_of_heap hh 0)).mono ?_
    rintro e w' ⟨rfl, rfl⟩
    have hset : w.setCell ⟨b, 0, none⟩ (.pointer (some ⟨b, 0, none⟩)) = w.setRow b #[.pointer (some ⟨b, 0, none⟩), u1] := by
      have := setCell_eq_setRow w b 0 _ _ _ (.pointer (some ⟨b, 0, none⟩)) hh
      simpa using this
    rw [hset]
    have hgo : Go2 θ θ objs (objs.set id (.box 237 [.ptr id 0 0, c1])) := by
      have := go_set (θ := θ) (v := θ id) (ob := .box 237 [.ptr id 0 0, c1]) hob (fun m' hm' => ⟨m', hm', Nat.le_refl _, fun _ => rfl⟩)
      rwa [thAt_self] at this
    have hch := hs.change (w' := w.setRow b #[.pointer (some ⟨b, 0, none⟩), u1]) (ob := .box 237 [.ptr id 0 0, c1]) (θ id) hob (by rw [thAt_self]; exact hgo)
      ⟨b, _, by rw [thAt_self]; exact hθ, hge, heap_setRow hh, by
        rw [thAt_self]
        have h1 : All2 (CR Φ θ objs) [.ptr id 0 0, c1] [.pointer (some ⟨b, 0, none⟩), u1] :=
          All2.cons ⟨b, rfl, some 0, Lr_of hob, fun m hm => ⟨Nat.zero_le _, fun _ => by rw [hθ]; rfl⟩⟩ (All2.cons h1 All2.nil)
        exact h1.imp fun _ _ => CR.go (Le.refl _) hgo, hno⟩
      (sat_setRow hs.sat hno _)
      (fun i b' hi hm => by
        have hne : b' ≠ b := fun e => by
          subst e
          exact hi (hs.apart i id b' hm (by unfold mblk; rw [hob, hθ]; rfl))
        exact ⟨setRow_other w b b' _ hne, by rw [hθ]; simp [pblk]; exact fun e => hne e.symm⟩) (by simpa using hs.base)
    rw [thAt_self] at hch
    exact ⟨_, Φ, θ, rfl, ⟨Le.refl _, hgo, New.refl _ _, below_setRow _ hge⟩, hch, [], rfl, All2.nil⟩
  case h_2 id' n' off' =>
    split at h
    case isFalse => cases h
    case isTrue hc =>
    obtain ⟨rfl, rfl, rfl⟩ := hc
    simp only [Option.some.injEq, Prod.mk.injEq] at h
    obtain ⟨rfl, rfl⟩ := h
    obtain ⟨b2, hb2, hv2⟩ := ptr_val (Φ := Φ) h0 (m := 0) (Lr_of hob) rfl
    rw [hθ] at hb2
    have : b = b2 := by simpa [pblk] using hb2
    subst this
    subst hv2
    refine (Any.Builder_copyCheck_used bLays bX72 b w hcell0).mono ?_
    rintro e w' ⟨rfl, rfl⟩
    exact ⟨_, Φ, θ, rfl, Goes.refl _ _ _ _ _, hs, [], rfl, All2.nil⟩

end Go.Vm

/- slices.Insert of one api.Tx, in place. -/
set_option linter.unusedVariables false
set_option linter.unusedSimpArgs false
namespace Go.Vm
open Go Go.RowKit Go.Shelf Go.Proofs

theorem run_overlaps_own {P : Program} (w : World) (tS tR e : TypeId) (ht : P.underlying tS = some (.slice e)) (size : Nat) (hz : ∀ w, (Go.sizeOf e).run P w = .ok size w)
    (a b : Addr) (la ca lb cb : Nat) (hne : a.block ≠ b.block) {tA tB : TypeId} {fA : Nat × Nat} {cA cB : Array Value}
    (ha : w.heap[a.block]? = some (.cells cA tA fA)) (hA : cA.size ≠ 0) (hb : w.heap[b.block]? = some (.cells cB tB (0, 0))) :
    (Extern.SlicesOverlaps.overlaps #[tS, tS] #[tR] #[.slice (some a) la ca, .slice (some b) lb cb]).run P w = .ok (.bool false) w := by
  have hsa : w.shape? a.block = some (tA, cA.size) := by simp [World.shape?, ha]
  have hsb : w.shape? b.block = some (tB, cB.size) := by simp [World.shape?, hb]
  have hfb : ∀ k s, w.frozen? ⟨b.block, k, s⟩ = false := fun k s => by simp [World.frozen?, hb]
  have hfb0 : w.frozen? b = false := hfb b.off b.spot
  have hnb : (a.block != b.block) = true := by simpa using hne
  have hnb' : (a.block == b.block) = false := by simpa using hne
  change Sem.run P (α := Value) (do
    let some t := (#[tS, tS] : Array TypeId)[0]? | stuck "slices.overlaps: no parameter types"
    let .slice elem ← underlying t | stuck "slices.overlaps: slice type expected"
    let size ← sizeOf elem
    match (some a : Option Addr), (some b : Option Addr) with
    | some a, some b =>
      if la = 0 ∨ lb = 0 ∨ size = 0 then pure (Value.bool false)
      else if a.block != b.block && (← frozen a) && (← frozen b) then unsupported .addressObserved
      else do
        if a.block != b.block then do
          noView a; noView b
          if ← mayBeOne a b then return Value.bool ((← choose (.extern "sameAddr.stringBytes" 2)) == 1)
        pure (Value.bool (a.block == b.block && a.off < b.off + lb * size && b.off < a.off + la * size))
    | _, _ => pure (Value.bool false)) w = _
  by_cases h0 : la = 0 ∨ lb = 0 ∨ size = 0
  · simp [run_underlying ht, hz, h0]
  · cases hk : cA.size with
    | zero => exact absurd hk hA
    | succ k =>
      rw [hk] at hsa
      cases hfa : w.frozen? a <;> cases hfe : w.frozen? { block := a.block, off := k + 1 } <;>
        simp [run_underlying ht, hz, h0, hnb, hnb', frozen, noView, viewAt, mayBeOne, stringish, shape, Sem.run, hsa, hsb, hfa, hfb0, hfe, hfb]

theorem run_copy_rows {P : Program} (w : World) (dT sT ty elem : TypeId) (s g o dLen dCap : Nat) (a : Addr) (sLen sCap : Nat) (cur : Array Value) (t : TypeId) (cs : List Value)
    (hu : P.underlying dT = some (.slice elem)) (hs : ∀ w, (Go.sizeOf elem).run P w = .ok s w)
    (hg : w.heap[g]? = some (.cells cur t (0, 0))) (hn : cs.length = Nat.min sLen dLen * s)
    (hsrc : ∀ j v, cs[j]? = some v → w.cell? (a.add j) = some v) (hfit : o + cs.length ≤ cur.size) (h1 : ∀ v ∈ cs, v.oneCell' = true) :
    (Builtin.copy_ #[dT, sT] ty #[.slice (some ⟨g, o, none⟩) dLen dCap, .slice (some a) sLen sCap]).run P w =
      .ok (goInt (Nat.min sLen dLen)) (w.setRow g (cur.toList.take o ++ cs ++ cur.toList.drop (o + cs.length)).toArray) := by
  have hf := run_firstCells_some (P := P) w s (Nat.min sLen dLen) a sLen sCap cs hn hsrc
  have hst := run_storeCells_at P g o t cs 0 cur w hg (by simpa using hfit) h1
  simp only [Nat.add_zero] at hst
  simp [Builtin.copy_, run_underlying hu, Builtin.lenOf, hs, hf, hst]

set_option maxHeartbeats 4000000 in
set_option maxRecDepth 100000 in
theorem ins_shift (g n c i vb vo vc : Nat) (cur : Array Value) (news : List Value) (w : World) (hi : i < n) (hroom : n + 1 ≤ c) (hc : c ≤ maxLen) (hg : w.heap[g]? = some (.cells cur 31 (0, 0))) (hcs : cur.size = c * 6) (hvb : vb ≠ g)
    {tA : TypeId} {fA : Nat × Nat} {cA : Array Value} (hv : w.heap[vb]? = some (.cells cA tA fA)) (hA : cA.size ≠ 0) (hnl : news.length = 6) (hnews : ∀ j u, news[j]? = some u → w.cell? ⟨vb, vo + j, none⟩ = some u)
    (h1c : ∀ v ∈ (cur.toList.drop (i * 6)).take ((n - i) * 6), v.oneCell' = true) (h1v : ∀ v ∈ news, v.oneCell' = true) :
    Calls Go.Proofs.Tryz.prog 152 #[.slice (some ⟨g, 0, none⟩) n c, .int .i64 i, .slice (some ⟨vb, vo, none⟩) 1 vc] w fun e w' => e = .returned (.slice (some ⟨g, 0, none⟩) (n + 1) c) ∧
      w' = w.drew.setRow g (cur.toList.take (i * 6) ++ news ++ (cur.toList.drop (i * 6)).take ((n - i) * 6) ++ cur.toList.drop ((n + 1) * 6)).toArray := by
  have hc63 : c ≤ 9223372036854775807 := by simp only [maxLen] at hc; omega
  have hov : ∀ lb cb, (callFunc 178 #[.slice (some ⟨vb, vo, none⟩) 1 vc, .slice (some ⟨g, (i + 1) * 6, none⟩) lb cb]).run Go.Proofs.Tryz.prog w = .ok (.value (.bool false)) w := fun lb cb => by
    rw [run_callFunc_extern Go.Proofs.Tryz.func178 (by kernel_rfl) (by kernel_rfl) (by kernel_rfl) (e := Extern.SlicesOverlaps.overlaps #[32, 32] #[4]) (by kernel_rfl),
      run_overlaps_own w 32 4 31 Go.Proofs.Tryz.underlying32 6 Go.Proofs.Tryz.sizeOf31 ⟨vb, vo, none⟩ ⟨g, (i + 1) * 6, none⟩ 1 vc lb cb hvb hv hA hg]
    rfl
  have hcl : cur.toList.length = c * 6 := by simpa using hcs
  have hgc : ∀ (W : World) (X : Array Value), W.heap[g]? = some (.cells X 31 (0, 0)) → ∀ j, W.cell? ⟨g, j, none⟩ = X[j]? := fun W X h j => by simp [World.cell?, h]
  obtain ⟨CS, hCS⟩ : ∃ CS, CS = (cur.toList.drop (i * 6)).take ((n - i) * 6) := ⟨_, rfl⟩
  rw [← hCS] at h1c ⊢
  have hCl : CS.length = (n - i) * 6 := by rw [hCS, List.length_take, List.length_drop, hcl]; omega
  obtain ⟨R1, hR1⟩ : ∃ R1 : Array Value, R1 = (cur.toList.take ((i + 1) * 6) ++ CS ++ cur.toList.drop ((i + 1) * 6 + CS.length)).toArray := ⟨_, rfl⟩
  have hR1s : R1.size = c * 6 := by
    rw [hR1]; simp only [List.size_toArray, List.length_append, List.length_take, List.length_drop, hcl, hCl]; omega
  have hcp1 : ∀ ty dc sc, (Builtin.copy_ #[32, 32] ty #[.slice (some ⟨g, (i + 1) * 6, none⟩) (n - i) dc, .slice (some ⟨g, i * 6, none⟩) (n + 1 - i) sc]).run Go.Proofs.Tryz.prog w.drew = .ok (goInt (n - i : Nat)) (w.drew.setRow g R1) := fun ty dc sc => by
    have hmin : Nat.min (n + 1 - i) (n - i) = n - i := by simp only [Nat.min_def]; split <;> omega
    have := run_copy_rows (P := Go.Proofs.Tryz.prog) w.drew 32 32 ty 31 6 g ((i + 1) * 6) (n - i) dc ⟨g, i * 6, none⟩ (n + 1 - i) sc cur 31 CS Go.Proofs.Tryz.underlying32 Go.Proofs.Tryz.sizeOf31 hg (by rw [hmin, hCl])
      (fun j v hj => by
        rw [Addr.add_lit, hgc w.drew cur hg]
        rw [hCS, List.getElem?_take] at hj
        split at hj
        · rw [List.getElem?_drop] at hj; simpa using hj
        · cases hj) (by rw [hCl]; omega) h1c
    rw [hmin, ← hR1] at this
    exact this
  obtain ⟨W1, hW1⟩ : ∃ W1, W1 = w.drew.setRow g R1 := ⟨_, rfl⟩
  have hW1g : W1.heap[g]? = some (.cells R1 31 (0, 0)) := by rw [hW1]; exact setRow_heap w.drew g cur R1 31 (0, 0) hg
  rw [← hW1] at hcp1
  have hcp2 : ∀ ty dc, (Builtin.copy_ #[32, 32] ty #[.slice (some ⟨g, i * 6, none⟩) (n + 1 - i) dc, .slice (some ⟨vb, vo, none⟩) 1 vc]).run Go.Proofs.Tryz.prog W1 = .ok (goInt (1 : Nat)) (W1.setRow g (R1.toList.take (i * 6) ++ news ++ R1.toList.drop (i * 6 + news.length)).toArray) := fun ty dc => by
    have hmin : Nat.min 1 (n + 1 - i) = 1 := by simp only [Nat.min_def]; split <;> omega
    have := run_copy_rows (P := Go.Proofs.Tryz.prog) W1 32 32 ty 31 6 g (i * 6) (n + 1 - i) dc ⟨vb, vo, none⟩ 1 vc R1 31 news Go.Proofs.Tryz.underlying32 Go.Proofs.Tryz.sizeOf31 hW1g (by rw [hmin, hnl])
      (fun j v hj => by
        rw [Addr.add_lit, hW1]
        have : (w.drew.setRow g R1).heap[vb]? = w.drew.heap[vb]? := setRow_other w.drew g vb _ hvb
        exact (World.cell?_of_block (w := w.drew) (a := ⟨vb, vo + j, none⟩) this).trans (hnews j v hj)) (by rw [hnl]; omega) h1v
    rw [hmin] at this
    exact this
  have hfin : W1.setRow g (R1.toList.take (i * 6) ++ news ++ R1.toList.drop (i * 6 + news.length)).toArray = w.drew.setRow g (cur.toList.take (i * 6) ++ news ++ CS ++ cur.toList.drop ((n + 1) * 6)).toArray := by
    rw [hW1, setRow_setRow]
    congr 2
    have e1 : R1.toList = cur.toList.take ((i + 1) * 6) ++ (CS ++ cur.toList.drop ((n + 1) * 6)) := by
      rw [hR1, List.append_assoc, hCl, ← Nat.add_mul, show i + 1 + (n - i) = n + 1 by omega]
    have hl : (cur.toList.take ((i + 1) * 6)).length = i * 6 + 6 := by rw [List.length_take, hcl]; omega
    rw [e1, hnl, List.take_append_of_le_length (by omega), List.take_take, Nat.min_eq_left (by omega), ← hl, List.drop_left]
    simp only [List.append_assoc]
  clear hW1 hR1 hCS
  have hz1 : ¬ ((1 : Int) = 0) := by omega
  have hz2 : ¬ ((i : Int) = (n : Int)) := by omega
  have hw1 : IntKind.i64.wrap ((i : Int) + 1) = (i : Int) + 1 := by rw [IntKind.wrap_i64]; omega
  have hb1 : (0 : Int) ≤ (i : Int) + 1 := by omega
  have hin : i ≤ n := by omega
  have htn : ((i : Int) + 1).toNat = i + 1 := by omega
  have hb2 : ¬ (c = i + 1) := by omega
  have hb3 : (i : Int) ≤ (n : Int) + 1 := by omega
  have hb4 : ¬ (c = i) := by omega
  have mixed : Go.Proofs.Tryz.prog.follows .mixedOrders = true := by kernel_rfl
  go_enter Go.Proofs.Tryz.func152, Go.Proofs.Tryz.ntmps152
  go_wp2_with (simp only [hov])
  go_region_law_o (refine step_copy_runI rfl _ _ 32 32 rfl _ _ (by simp [Act.eval, Act.put]) (by simp [Act.eval, Act.put]) (hcp1 _ _ _) ?_)
  go_wp2_with (at_builtin; refine wpList_copy_runI _ rfl _ _ 32 32 rfl _ _ rfl rfl (hcp2 _ _) ?_)
  go_ret
  exact ⟨rfl, by rw [← hfin, List.append_assoc, hnl]⟩

set_option maxHeartbeats 4000000 in
set_option maxRecDepth 100000 in
theorem ins_grow (g n c i vb vo vc : Nat) (cur : Array Value) (news : List Value) (w : World) (hi : i < n) (hnc : n ≤ c) (hroom : c < n + 1) (hbig : (n + 1) * 56 ≤ 140737488355328) (hg : w.heap[g]? = some (.cells cur 31 (0, 0))) (hcs : cur.size = c * 6)
    (hvw : vb < w.heap.size) (hnl : news.length = 6) (hnews : ∀ j u, news[j]? = some u → w.cell? ⟨vb, vo + j, none⟩ = some u)
    (h1c : ∀ v ∈ (cur.toList.drop (i * 6)).take ((n - i) * 6), v.oneCell' = true) (h1v : ∀ v ∈ news, v.oneCell' = true) :
    Calls Go.Proofs.Tryz.prog 152 #[.slice (some ⟨g, 0, none⟩) n c, .int .i64 i, .slice (some ⟨vb, vo, none⟩) 1 vc] w fun e w' => ∃ G R, e = .returned (.slice (some ⟨w.heap.size, 0, none⟩) (n + 1) G) ∧ n + 1 ≤ G ∧ G ≤ maxLen ∧
      w.grownBy w' (some g) ∧ w'.heap[w.heap.size]? = some (.cells R 31 (0, 0)) ∧ R.size = G * 6 ∧ R.toList.take ((n + 1) * 6) = cur.toList.take (i * 6) ++ news ++ (cur.toList.drop (i * 6)).take ((n - i) * 6) := by
  have hcl : cur.toList.length = c * 6 := by simpa using hcs
  obtain ⟨i0, hi0, hz0, hzs, hzb⟩ := info_parts (show (Go.Proofs.Tryz.prog.info? 31).map (fun i => (i.zero, i.size, i.bytes)) = some (some (.agg #[.int .i64 0, .int .i64 0, .int .i64 0, .int .i64 0, .int .i64 0, .string { data := #[] }]), 6, 56) by kernel_rfl)
  have hgc : ∀ (W : World) (b : Nat) (X : Array Value) (t : TypeId) (f : Nat × Nat), W.heap[b]? = some (.cells X t f) → ∀ j, W.cell? ⟨b, j, none⟩ = X[j]? := fun W b X t f h j => by simp [World.cell?, h]
  have hgw : g < w.heap.size := (Array.getElem?_eq_some_iff.1 hg).1
  have hik : i + (n + 1 - i) = n + 1 := by omega
  have hkk : (n : Int) + 1 - (i : Int) = ((n + 1 - i : Nat) : Int) := by omega
  have hold : (Builtin.firstCells i0.size i (.slice (some ⟨g, 0, none⟩) i c)).run Go.Proofs.Tryz.prog w.drew = .ok (cur.toList.take (i * 6)).toArray w.drew := by
    rw [hzs]
    exact run_firstCells_some w.drew 6 i ⟨g, 0, none⟩ i c (cur.toList.take (i * 6)) (by rw [List.length_take, hcl]; omega) (fun j v hj => by
      rw [Addr.add_lit, hgc w.drew g cur _ _ hg]
      rw [List.getElem?_take] at hj
      split at hj
      · simpa using hj
      · cases hj)
  obtain ⟨G, hG⟩ : ∃ G, G = grownCap w (n + 1) c 31 := ⟨_, rfl⟩
  obtain ⟨R0, hR0⟩ : ∃ R0 : Array Value, R0 = (cur.toList.take (i * 6)).toArray ++ Builtin.zeroCells (Value.agg #[.int .i64 0, .int .i64 0, .int .i64 0, .int .i64 0, .int .i64 0, .string { data := #[] }]).cells (n + 1 - i) ++ Builtin.zeroCells (Value.agg #[.int .i64 0, .int .i64 0, .int .i64 0, .int .i64 0, .int .i64 0, .string { data := #[] }]).cells (G - (n + 1)) := ⟨_, rfl⟩
  have hrz : ∀ ty, (Builtin.append_ #[32, 3] ty #[.slice (some ⟨g, 0, none⟩) i c, .int .i64 ((n : Int) + 1 - (i : Int))]).run Go.Proofs.Tryz.prog w = .ok (.slice (some ⟨w.heap.size, 0, none⟩) (n + 1) G) (w.drew.alloc (.cells R0 31)) := fun ty => by
    have h := Lib.run_append_grow_zeros w 32 3 ty 31 i0 _ .i64 .i64 Go.Proofs.Tryz.underlying32 Go.Proofs.Tryz.underlying3 hi0 hz0 (some ⟨g, 0, none⟩) i c _ hold (n + 1 - i) (by omega) (by omega) (by omega) (by omega) (by rw [hzb]; omega) (by rw [hzb, hik]; exact growslice_fits hroom hbig)
    rw [hik] at h
    rw [hkk, hG, hR0, hG]
    exact h
  have hGn : n + 1 ≤ G := by rw [hG]; exact grownCap_ge w _ _ _
  have hGm : G ≤ maxLen := by rw [hG]; exact grownCap_le_maxLen w (n + 1) c 31 (by unfold maxLen; omega)
  have hG63 : G ≤ 9223372036854775807 := by unfold maxLen at hGm; omega
  have hR0s : R0.size = G * 6 := by
    rw [hR0]
    have hz6 : (Value.agg #[.int .i64 0, .int .i64 0, .int .i64 0, .int .i64 0, .int .i64 0, .string { data := #[] }]).cells.size = 6 := rfl
    simp only [Array.size_append, List.size_toArray, size_zeroCells, hz6, List.length_take, hcl]
    omega
  have hR0t : R0.toList.take (i * 6) = cur.toList.take (i * 6) := by
    rw [hR0]
    simp only [Array.toList_append, List.append_assoc]
    have hl : (cur.toList.take (i * 6)).length = i * 6 := by rw [List.length_take, hcl]; omega
    rw [List.take_append_of_le_length (by rw [hl]; exact Nat.le_refl _), List.take_of_length_le (by rw [hl]; exact Nat.le_refl _)]
  clear hG hR0
  obtain ⟨W1, hW1⟩ : ∃ W1, W1 = w.drew.alloc (.cells R0 31) := ⟨_, rfl⟩
  rw [← hW1] at hrz
  have hW1N : W1.heap[w.heap.size]? = some (.cells R0 31 (0, 0)) := by rw [hW1]; exact heap_alloc_new w.drew _
  have hW1o : ∀ b, b < w.heap.size → W1.heap[b]? = w.heap[b]? := fun b hb => by rw [hW1]; exact heap_alloc_old w.drew _ hb
  obtain ⟨CS, hCS⟩ : ∃ CS, CS = (cur.toList.drop (i * 6)).take ((n - i) * 6) := ⟨_, rfl⟩
  rw [← hCS] at h1c ⊢
  have hCl : CS.length = (n - i) * 6 := by rw [hCS, List.length_take, List.length_drop, hcl]; omega
  obtain ⟨R1, hR1⟩ : ∃ R1 : Array Value, R1 = (R0.toList.take (i * 6) ++ news ++ R0.toList.drop (i * 6 + news.length)).toArray := ⟨_, rfl⟩
  have hR0l : R0.toList.length = G * 6 := by simpa using hR0s
  have hR1s : R1.size = G * 6 := by
    rw [hR1]; simp only [List.size_toArray, List.length_append, List.length_take, List.length_drop, hR0l, hnl]; omega
  have hcpA : ∀ ty dc, (Builtin.copy_ #[32, 32] ty #[.slice (some ⟨w.heap.size, i * 6, none⟩) (n + 1 - i) dc, .slice (some ⟨vb, vo, none⟩) 1 vc]).run Go.Proofs.Tryz.prog W1 = .ok (goInt (1 : Nat)) (W1.setRow w.heap.size R1) := fun ty dc => by
    have hmin : Nat.min 1 (n + 1 - i) = 1 := by simp only [Nat.min_def]; split <;> omega
    have := run_copy_rows (P := Go.Proofs.Tryz.prog) W1 32 32 ty 31 6 w.heap.size (i * 6) (n + 1 - i) dc ⟨vb, vo, none⟩ 1 vc R0 31 news Go.Proofs.Tryz.underlying32 Go.Proofs.Tryz.sizeOf31 hW1N (by rw [hmin, hnl])
      (fun j v hj => by
        rw [Addr.add_lit]
        exact (World.cell?_of_block (w := w) (a := ⟨vb, vo + j, none⟩) (hW1o vb hvw)).trans (hnews j v hj)) (by rw [hnl]; omega) h1v
    rw [hmin, ← hR1] at this
    exact this
  obtain ⟨W2, hW2⟩ : ∃ W2, W2 = W1.setRow w.heap.size R1 := ⟨_, rfl⟩
  rw [← hW2] at hcpA
  have hW2N : W2.heap[w.heap.size]? = some (.cells R1 31 (0, 0)) := by rw [hW2]; exact setRow_heap W1 w.heap.size R0 R1 31 (0, 0) hW1N
  have hW2o : ∀ b, b < w.heap.size → W2.heap[b]? = w.heap[b]? := fun b hb => by rw [hW2]; exact (setRow_other W1 w.heap.size b _ (by omega)).trans (hW1o b hb)
  have hcpB : ∀ ty dc sc, (Builtin.copy_ #[32, 32] ty #[.slice (some ⟨w.heap.size, (i + 1) * 6, none⟩) (n - i) dc, .slice (some ⟨g, i * 6, none⟩) (n - i) sc]).run Go.Proofs.Tryz.prog W2.drew = .ok (goInt (n - i : Nat)) (W2.drew.setRow w.heap.size (R1.toList.take ((i + 1) * 6) ++ CS ++ R1.toList.drop ((i + 1) * 6 + CS.length)).toArray) := fun ty dc sc => by
    have hmin : Nat.min (n - i) (n - i) = n - i := Nat.min_self _
    have := run_copy_rows (P := Go.Proofs.Tryz.prog) W2.drew 32 32 ty 31 6 w.heap.size ((i + 1) * 6) (n - i) dc ⟨g, i * 6, none⟩ (n - i) sc R1 31 CS Go.Proofs.Tryz.underlying32 Go.Proofs.Tryz.sizeOf31 hW2N (by rw [hmin, hCl])
      (fun j v hj => by
        rw [Addr.add_lit, hgc W2.drew g cur 31 (0, 0) ((hW2o g hgw).trans hg)]
        rw [hCS, List.getElem?_take] at hj
        split at hj
        · rw [List.getElem?_drop] at hj; simpa using hj
        · cases hj) (by rw [hCl]; omega) h1c
    rw [hmin] at this
    exact this
  obtain ⟨R2, hR2⟩ : ∃ R2 : Array Value, R2 = (R1.toList.take ((i + 1) * 6) ++ CS ++ R1.toList.drop ((i + 1) * 6 + CS.length)).toArray := ⟨_, rfl⟩
  rw [← hR2] at hcpB
  have hR1l : R1.toList.length = G * 6 := by simpa using hR1s
  have hend : ∀ w', w' = W2.drew.setRow w.heap.size R2 → w.grownBy w' (some g) ∧ w'.heap[w.heap.size]? = some (.cells R2 31 (0, 0)) ∧ R2.size = G * 6 ∧ R2.toList.take ((n + 1) * 6) = cur.toList.take (i * 6) ++ news ++ CS := by
    rintro w' rfl
    refine ⟨?_, setRow_heap W2.drew w.heap.size R1 R2 31 (0, 0) hW2N, ?_, ?_⟩
    · subst hW2; subst hW1
      exact ⟨rfl, rfl, rfl, by simp, fun k hk _ => (setRow_other _ w.heap.size k _ (by omega)).trans (hW2o k hk)⟩
    · rw [hR2]; simp only [List.size_toArray, List.length_append, List.length_take, List.length_drop, hR1l, hCl]; omega
    · have hl0 : (R0.toList.take (i * 6)).length = i * 6 := by rw [List.length_take, hR0l]; omega
      have e1 : R1.toList.take ((i + 1) * 6) = cur.toList.take (i * 6) ++ news := by
        rw [hR1, hR0t, show (i + 1) * 6 = (cur.toList.take (i * 6) ++ news).length by rw [List.length_append, List.length_take, hcl, hnl]; omega]
        simp only []
        exact List.take_left
      rw [hR2, e1, show (n + 1) * 6 = (cur.toList.take (i * 6) ++ news ++ CS).length by rw [List.length_append, List.length_append, List.length_take, hcl, hnl, hCl]; omega]
      exact List.take_left
  clear hW2 hW1 hR1 hR2 hCS hkk hik hold
  have hz1 : ¬ ((1 : Int) = 0) := by omega
  have hz2 : ¬ ((i : Int) = (n : Int)) := by omega
  have hz3 : (c : Int) < (n : Int) + 1 := by omega
  have hw1 : IntKind.i64.wrap ((i : Int) + 1) = (i : Int) + 1 := by rw [IntKind.wrap_i64]; omega
  have hb1 : (0 : Int) ≤ (i : Int) + 1 := by omega
  have hin : i ≤ n := by omega
  have htn : ((i : Int) + 1).toNat = i + 1 := by omega
  have hGi : ¬ (G = i) := by omega
  have hGim : ¬ (G = i + 1) := by omega
  have hci : ¬ (c = i) := by omega
  have hb3 : (i : Int) ≤ (n : Int) := by omega
  have mixed : Go.Proofs.Tryz.prog.follows .mixedOrders = true := by kernel_rfl
  go_enter Go.Proofs.Tryz.func152, Go.Proofs.Tryz.ntmps152
  go_wp2_with (first
    | (at_builtin; refine Lib.wpList_append_run _ rfl _ _ _ _ rfl _ _ rfl rfl _ _ (hrz _) ?_)
    | (at_builtin; refine wpList_copy_runI _ rfl _ _ 32 32 rfl _ _ rfl rfl (hcpA _ _) ?_))
  go_region_law_o (refine step_copy_runI rfl _ _ 32 32 rfl _ _ (by simp [Act.eval, Act.put]) (by simp [Act.eval, Act.put]) (hcpB _ _ _) ?_)
  go_wp2
  go_ret
  exact ⟨G, R2, rfl, hGn, hGm, hend _ rfl⟩

set_option maxHeartbeats 4000000 in
set_option maxRecDepth 100000 in
theorem ins_end (base : Nat) (v : Value) (n vb vo vc : Nat) (xs news : List Value) (w : World) (hown : w.ownsRow base 31 6 v n xs) (hbig : (n + 1) * 56 ≤ 140737488355328) (hbase : base ≤ w.heap.size)
    (hnl : news.length = 6) (hnews : ∀ j u, news[j]? = some u → w.cell? ⟨vb, vo + j, none⟩ = some u) (h1v : ∀ v ∈ news, v.oneCell' = true) :
    Calls Go.Proofs.Tryz.prog 152 #[v, .int .i64 n, .slice (some ⟨vb, vo, none⟩) 1 vc] w fun e w' => ∃ v', e = .returned v' ∧ w'.ownsRow base 31 6 v' (n + 1) (xs ++ news) ∧ w.grownBy w' v.ownBlock ∧ (v'.ownBlock = v.ownBlock ∨ v'.ownBlock = some w.heap.size) := by
  obtain ⟨i0, hi0, hz0, hzs, hzb⟩ := info_parts (show (Go.Proofs.Tryz.prog.info? 31).map (fun i => (i.zero, i.size, i.bytes)) = some (some (.agg #[.int .i64 0, .int .i64 0, .int .i64 0, .int .i64 0, .int .i64 0, .string { data := #[] }]), 6, 56) by kernel_rfl)
  obtain ⟨v', w', hr, hown', hgrow, _, hat⟩ := run_append_own_at (P := Go.Proofs.Tryz.prog) w base 32 32 31 i0 _ 6 56 Go.Proofs.Tryz.underlying32 hi0 hz0 hzs hzb rfl (by decide) v n xs hown
    ⟨vb, vo, none⟩ 1 vc news (by rw [hnl]) (fun j u hj => by rw [addr_add]; exact hnews j u hj) h1v (by unfold maxLen; omega) hbig hbase
  have hfin : ∀ e : Ending, e = .returned v' → ∃ v', e = .returned v' ∧ w'.ownsRow base 31 6 v' (n + 1) (xs ++ news) ∧ w.grownBy w' v.ownBlock ∧ (v'.ownBlock = v.ownBlock ∨ v'.ownBlock = some w.heap.size) := fun e he => ⟨v', he, hown', hgrow, hat⟩
  have hn63 : (n : Int) ≤ 9223372036854775807 := by omega
  rcases hown.2 with ⟨rfl, rfl⟩ | ⟨g, cap, cur, rfl, _, hg, hnc, hcm, hcs, _⟩
  · clear hown hown' hgrow hat
    go_enter Go.Proofs.Tryz.func152, Go.Proofs.Tryz.ntmps152
    go_wp2_with (at_builtin; refine Lib.wpList_append_run _ rfl _ _ _ _ rfl _ _ rfl rfl _ _ hr ?_)
    go_ret
    exact hfin _ rfl
  · have hc63 : cap ≤ 9223372036854775807 := by unfold maxLen at hcm; omega
    clear hown hown' hgrow hat
    by_cases hcn : cap = n
    · subst hcn
      go_enter Go.Proofs.Tryz.func152, Go.Proofs.Tryz.ntmps152
      go_wp2_with (at_builtin; refine Lib.wpList_append_run _ rfl _ _ _ _ rfl _ _ rfl rfl _ _ hr ?_)
      go_ret
      exact hfin _ rfl
    · go_enter Go.Proofs.Tryz.func152, Go.Proofs.Tryz.ntmps152
      go_wp2_with (at_builtin; refine Lib.wpList_append_run _ rfl _ _ _ _ rfl _ _ rfl rfl _ _ hr ?_)
      go_ret
      exact hfin _ rfl

end Go.Vm

/- slices.Insert of one api.Tx, as a function in place. -/
set_option linter.unusedVariables false
set_option linter.unusedSimpArgs false
namespace Go.Vm
open Go Go.RowKit Go.Shelf Go.Proofs

theorem ins_calls (base : Nat) (v : Value) (n i vb vo vc : Nat) (xs news : List Value) (w : World) (hown : w.ownsRow base 31 6 v n xs) (hi : i ≤ n) (hbig : (n + 1) * 56 ≤ 140737488355328) (hbase : base ≤ w.heap.size)
    {tA : TypeId} {fA : Nat × Nat} {cA : Array Value} (hv : w.heap[vb]? = some (.cells cA tA fA)) (hA : cA.size ≠ 0) (hvb : ∀ b, pblk v = some b → vb ≠ b)
    (hnl : news.length = 6) (hnews : ∀ j u, news[j]? = some u → w.cell? ⟨vb, vo + j, none⟩ = some u) (h1v : ∀ v ∈ news, v.oneCell' = true) (h1x : ∀ v ∈ xs, v.oneCell' = true) :
    Calls Go.Proofs.Tryz.prog 152 #[v, .int .i64 i, .slice (some ⟨vb, vo, none⟩) 1 vc] w fun e w' => ∃ v', e = .returned v' ∧ w'.ownsRow base 31 6 v' (n + 1) (xs.take (i * 6) ++ news ++ xs.drop (i * 6)) ∧ w.grownBy w' v.ownBlock ∧
      (v'.ownBlock = v.ownBlock ∨ v'.ownBlock = some w.heap.size) := by
  have hxl := hown.1
  rcases Nat.lt_or_ge i n with hlt | hge
  · have hvw : vb < w.heap.size := (Array.getElem?_eq_some_iff.1 hv).1
    rcases hown.2 with ⟨rfl, rfl⟩ | ⟨g, cap, cur, rfl, hbg, hg, hnc, hcm, hcs, htake⟩
    · omega
    · have hcl : cur.toList.length = cap * 6 := by simpa using hcs
      have hcs' : cur.size = cap * 6 := hcs
      have hCS : (cur.toList.drop (i * 6)).take ((n - i) * 6) = xs.drop (i * 6) := by
        rw [← htake, List.drop_take, Nat.sub_mul]
      have hT : cur.toList.take (i * 6) = xs.take (i * 6) := by
        rw [← htake, List.take_take, Nat.min_eq_left (by omega)]
      have hlen : (xs.take (i * 6) ++ news ++ xs.drop (i * 6)).length = (n + 1) * 6 := by
        simp only [List.length_append, List.length_take, List.length_drop, hnl]; omega
      have h1c : ∀ v ∈ (cur.toList.drop (i * 6)).take ((n - i) * 6), v.oneCell' = true := fun v hv => by rw [hCS] at hv; exact h1x v (List.mem_of_mem_drop hv)
      by_cases hroom : n + 1 ≤ cap
      · refine (ins_shift g n cap i vb vo vc cur news w hlt hroom hcm hg hcs' (hvb g rfl) hv hA hnl hnews h1c h1v).mono ?_
        rintro e w' ⟨rfl, rfl⟩
        refine ⟨_, rfl, ⟨hlen, .inr ⟨g, cap, _, rfl, hbg, setRow_heap w.drew g cur _ 31 (0, 0) hg, hroom, hcm, ?_, ?_⟩⟩, ⟨rfl, rfl, rfl, by simp, fun k _ hk => setRow_other w.drew g k _ (fun e => hk (by simp [Value.ownBlock, e]))⟩, .inl rfl⟩
        · rw [hCS, hT]
          simp only [List.size_toArray, List.length_append, List.length_take, List.length_drop, hnl, hcl]
          omega
        · rw [hCS, hT, ← hlen]
          simp only []
          exact List.take_left
      · refine (ins_grow g n cap i vb vo vc cur news w hlt hnc (by omega) hbig hg hcs' hvw hnl hnews h1c h1v).mono ?_
        rintro e w' ⟨G, R, rfl, hG, hGm, hgr, hh, hRs, hRt⟩
        refine ⟨_, rfl, ⟨hlen, .inr ⟨w.heap.size, G, R, rfl, hbase, hh, hG, hGm, hRs, ?_⟩⟩, hgr, .inr rfl⟩
        rw [hRt, hCS, hT]
  · have : i = n := by omega
    subst this
    refine (ins_end base v i vb vo vc xs news w hown hbig hbase hnl hnews h1v).mono ?_
    rintro e w' ⟨v', rfl, h1, h2, h3⟩
    refine ⟨v', rfl, ?_, h2, h3⟩
    rw [← hxl, List.take_length, List.drop_length, List.append_nil]
    exact h1

def I_kbb : List V1 → Objs → Option (TV × Objs)
  | [.one (.own id n), .one (.d (.sc (.int k i))), .one (.d (.sl [x]))], objs => match objs[id]? with
    | some (.arr e k' xs) => if k = .i64 ∧ e = 31 ∧ k' = 6 ∧ xs.length = n ∧ 0 ≤ i ∧ i ≤ n ∧ (n + 1) * 56 ≤ 140737488355328 ∧ x.length = 6 then
        some (.v (.one (.own id (n + 1))), objs.set id (.arr 31 6 (xs.take i.toNat ++ x :: xs.drop i.toNat))) else none
    | _ => none
  | _, _ => none

theorem en_kbb : Enters Go.Proofs.Tryz.prog 152 := ⟨_, Go.Proofs.Tryz.func152, rfl, rfl⟩

theorem ic_kbb : InlC Go.Proofs.Tryz.prog 152 I_kbb := by
  intro Φ θ base w objs vs args v objs' hs ha h
  unfold I_kbb at h
  split at h
  case h_2 => cases h
  case h_1 id n k i x =>
  split at h
  case h_2 => cases h
  case h_1 e k' xs hob =>
  split at h
  case isFalse => cases h
  case isTrue hc =>
  obtain ⟨rfl, rfl, rfl, hxn, hi0, hin, hbig, hxl⟩ := hc
  simp only [Option.some.injEq, Prod.mk.injEq] at h
  obtain ⟨rfl, rfl⟩ := h
  obtain ⟨u0, us0, rfl, h0, hus⟩ := ha.cons_left
  obtain ⟨u1, us1, rfl, h1, hus⟩ := hus.cons_left
  obtain ⟨u2, us2, rfl, h2, hus⟩ := hus.cons_left
  have := hus.nil_left; subst this
  have hθ := own_val (Φ := Φ) h0 (Lr_of hob) hxn.symm
  subst hθ
  have hu1 : u1 = .int .i64 i := (den_sc h1).1
  subst hu1
  obtain ⟨vs, hown, hden, hall, hk0, hno⟩ := hs.ob id _ hob
  obtain ⟨b, off, vc, news, rfl, hdn, hat, hnl, hbne⟩ := den_flat (k := 6) h2 (by simp) hs.sat (by simpa using hxl)
  simp only [List.flatten_cons, List.flatten_nil, List.append_nil, List.length_cons, List.length_nil, Nat.zero_add, Nat.one_mul] at hdn hnl
  have h1v : ∀ u ∈ news, u.oneCell' = true := fun u hu => by
    obtain ⟨j, hj, rfl⟩ := List.getElem_of_mem hu
    exact Den.one (hdn.2 j _ _ (List.getElem?_eq_getElem (by rw [hdn.1]; exact hj)) (List.getElem?_eq_getElem hj))
  have h1x : ∀ u ∈ vs, u.oneCell' = true := fun u hu => by
    obtain ⟨j, hj, rfl⟩ := List.getElem_of_mem hu
    exact Den.one (hden.2 j _ _ (List.getElem?_eq_getElem (by rw [hden.1]; exact hj)) (List.getElem?_eq_getElem hj))
  have hc0 : w.cell? ⟨b, off + 0, none⟩ = some news[0] := hat 0 _ (List.getElem?_eq_getElem (by omega))
  obtain ⟨cA, tA, fA, hv, hA⟩ : ∃ cA tA fA, w.heap[b]? = some (.cells cA tA fA) ∧ cA.size ≠ 0 := by
    unfold World.cell? at hc0
    split at hc0
    · rename_i c t f heq
      refine ⟨c, t, f, heq, fun e => ?_⟩
      simp [Array.getElem?_eq_none (show c.size ≤ off by omega)] at hc0
    · cases hc0
  have hii : ((i.toNat : Nat) : Int) = i := by omega
  have hcall := ins_calls base (θ id) xs.length i.toNat b off vc vs news w hown (by omega) (by omega) hs.base hv hA (fun b' hb' e => hbne b' (hno b' hb') e.symm) hnl (fun j u hj => hat j u hj) h1v h1x
  rw [hii] at hcall
  refine hcall.mono ?_
  rintro e w' ⟨v', rfl, hown', hgrow, hat'⟩
  have hvb := own_pblk hown
  have hvb' := own_pblk hown'
  have hgrowB : Below base w w' := (Below.refl base w).grown hgrow hs.base (fun k hk => by
    have := hown.lt k hk; omega)
  have hlen : (xs.take i.toNat ++ x :: xs.drop i.toNat).length = xs.length + 1 := by simp; omega
  have hgo : Go2 θ (thAt θ id v') objs (objs.set id (.arr 31 6 (xs.take i.toNat ++ x :: xs.drop i.toNat))) :=
    go_set hob (fun m' hm' => ⟨xs.length, rfl, by simp only [len1, hlen] at hm'; injection hm' with hm'; omega, fun e => by simp only [len1, hlen] at hm'; injection hm' with hm'; omega⟩)
  have hno' : ∀ b, pblk v' = some b → ∀ o, Φ b o = none := by
    intro b hb o
    rcases hat' with h | h
    · rw [hvb', h, ← hvb] at hb; exact hno b hb o
    · rw [hvb', h] at hb; injection hb with hb; subst hb; exact sat_none hs.sat o
  have hkeepB : ∀ b, b < w.heap.size → (∀ b', pblk (θ id) = some b' → b ≠ b') → w'.heap[b]? = w.heap[b]? := fun b hb hne' =>
    hgrow.block b hb (fun e => by rw [← hvb] at e; exact hne' b e.symm rfl)
  have hfl : (xs.take i.toNat ++ x :: xs.drop i.toNat).flatten = xs.flatten.take (i.toNat * 6) ++ x ++ xs.flatten.drop (i.toNat * 6) := by
    rw [List.flatten_append, List.flatten_cons, flat_take hall, flat_drop' hall, List.append_assoc]
  have hst := hs.change (w' := w') (ob := .arr 31 6 (xs.take i.toNat ++ x :: xs.drop i.toNat)) v' hob hgo
    ⟨_, by rw [thAt_same, hlen]; exact hown', by
      rw [hfl]
      exact ((hden.take _).append hdn).append (hden.drop _), fun y hy => by
        rcases List.mem_append.1 hy with h | h
        · exact hall y (List.mem_of_mem_take h)
        · rcases List.mem_cons.1 h with rfl | h
          · exact hxl
          · exact hall y (List.mem_of_mem_drop h), by omega, fun b hb o => by rw [thAt_same] at hb; exact hno' b hb o⟩
    (fun b o u hu => by
      have hb := hs.sat.lt hu
      have := hkeepB b hb (fun b' hb' e => by subst e; rw [hno b hb'] at hu; cases hu)
      exact (World.cell?_of_block (w := w) (a := ⟨b, o, none⟩) this).trans (hs.sat b o u hu))
    (fun j b hj hm => by
      have hb := hs.mblk_ge hm
      have hne' : ∀ b', pblk (θ id) = some b' → b ≠ b' := fun b' hb' e => by
        subst e
        exact hj (hs.apart j id b hm (by unfold mblk; rw [hob]; exact hb'))
      refine ⟨hkeepB b hb.2 hne', fun e => ?_⟩
      rcases hat' with h | h
      · rw [hvb', h, ← hvb] at e; exact hne' b e rfl
      · rw [hvb', h] at e; injection e with e; omega)
    (Nat.le_trans hs.base hgrow.size)
  refine ⟨v', Φ, thAt θ id v', rfl, ⟨Le.refl _, hgo, New.refl _ _, hgrowB⟩, hst, ?_, some (xs.length + 1), ?_, fun m hm => ⟨by injection hm with hm; omega, fun _ => (thAt_same _ _ _).symm⟩⟩
  · rcases hown'.2 with ⟨_, h2⟩ | ⟨g, cap, cur, hv', _, _, hnc', _⟩
    · omega
    · exact ⟨_, cap, by rw [hv', hxn], fun _ => ⟨g, rfl⟩, by omega⟩
  · rw [← hlen]
    exact Lr_of (by rw [List.getElem?_set_self (List.getElem?_eq_some_iff.1 hob).1])

end Go.Vm

/- slices.Insert of one api.Tx, in place. -/
set_option linter.unusedVariables false
set_option linter.unusedSimpArgs false
namespace Go.Vm
open Go Go.RowKit Go.Shelf Go.Proofs

theorem ac_run_overlaps_own {P : Program} (w : World) (tS tR e : TypeId) (ht : P.underlying tS = some (.slice e)) (size : Nat) (hz : ∀ w, (Go.sizeOf e).run P w = .ok size w)
    (a b : Addr) (la ca lb cb : Nat) (hne : a.block ≠ b.block) {tA tB : TypeId} {fA : Nat × Nat} {cA cB : Array Value}
    (ha : w.heap[a.block]? = some (.cells cA tA fA)) (hA : cA.size ≠ 0) (hb : w.heap[b.block]? = some (.cells cB tB (0, 0))) :
    (Extern.SlicesOverlaps.overlaps #[tS, tS] #[tR] #[.slice (some a) la ca, .slice (some b) lb cb]).run P w = .ok (.bool false) w := by
  have hsa : w.shape? a.block = some (tA, cA.size) := by simp [World.shape?, ha]
  have hsb : w.shape? b.block = some (tB, cB.size) := by simp [World.shape?, hb]
  have hfb : ∀ k s, w.frozen? ⟨b.block, k, s⟩ = false := fun k s => by simp [World.frozen?, hb]
  have hfb0 : w.frozen? b = false := hfb b.off b.spot
  have hnb : (a.block != b.block) = true := by simpa using hne
  have hnb' : (a.block == b.block) = false := by simpa using hne
  change Sem.run P (α := Value) (do
    let some t := (#[tS, tS] : Array TypeId)[0]? | stuck "slices.overlaps: no parameter types"
    let .slice elem ← underlying t | stuck "slices.overlaps: slice type expected"
    let size ← sizeOf elem
    match (some a : Option Addr), (some b : Option Addr) with
    | some a, some b =>
      if la = 0 ∨ lb = 0 ∨ size = 0 then pure (Value.bool false)
      else if a.block != b.block && (← frozen a) && (← frozen b) then unsupported .addressObserved
      else do
        if a.block != b.block then do
          noView a; noView b
          if ← mayBeOne a b then return Value.bool ((← choose (.extern "sameAddr.stringBytes" 2)) == 1)
        pure (Value.bool (a.block == b.block && a.off < b.off + lb * size && b.off < a.off + la * size))
    | _, _ => pure (Value.bool false)) w = _
  by_cases h0 : la = 0 ∨ lb = 0 ∨ size = 0
  · simp [run_underlying ht, hz, h0]
  · cases hk : cA.size with
    | zero => exact absurd hk hA
    | succ k =>
      rw [hk] at hsa
      cases hfa : w.frozen? a <;> cases hfe : w.frozen? { block := a.block, off := k + 1 } <;>
        simp [run_underlying ht, hz, h0, hnb, hnb', frozen, noView, viewAt, mayBeOne, stringish, shape, Sem.run, hsa, hsb, hfa, hfb0, hfe, hfb]

theorem ac_run_copy_rows {P : Program} (w : World) (dT sT ty elem : TypeId) (s g o dLen dCap : Nat) (a : Addr) (sLen sCap : Nat) (cur : Array Value) (t : TypeId) (cs : List Value)
    (hu : P.underlying dT = some (.slice elem)) (hs : ∀ w, (Go.sizeOf elem).run P w = .ok s w)
    (hg : w.heap[g]? = some (.cells cur t (0, 0))) (hn : cs.length = Nat.min sLen dLen * s)
    (hsrc : ∀ j v, cs[j]? = some v → w.cell? (a.add j) = some v) (hfit : o + cs.length ≤ cur.size) (h1 : ∀ v ∈ cs, v.oneCell' = true) :
    (Builtin.copy_ #[dT, sT] ty #[.slice (some ⟨g, o, none⟩) dLen dCap, .slice (some a) sLen sCap]).run P w =
      .ok (goInt (Nat.min sLen dLen)) (w.setRow g (cur.toList.take o ++ cs ++ cur.toList.drop (o + cs.length)).toArray) := by
  have hf := run_firstCells_some (P := P) w s (Nat.min sLen dLen) a sLen sCap cs hn hsrc
  have hst := run_storeCells_at P g o t cs 0 cur w hg (by simpa using hfit) h1
  simp only [Nat.add_zero] at hst
  simp [Builtin.copy_, run_underlying hu, Builtin.lenOf, hs, hf, hst]

set_option maxHeartbeats 4000000 in
set_option maxRecDepth 100000 in
theorem ac_ins_shift (g n c i vb vo vc : Nat) (cur : Array Value) (news : List Value) (w : World) (hi : i < n) (hroom : n + 1 ≤ c) (hc : c ≤ maxLen) (hg : w.heap[g]? = some (.cells cur 65 (0, 0))) (hcs : cur.size = c * 3) (hvb : vb ≠ g)
    {tA : TypeId} {fA : Nat × Nat} {cA : Array Value} (hv : w.heap[vb]? = some (.cells cA tA fA)) (hA : cA.size ≠ 0) (hnl : news.length = 3) (hnews : ∀ j u, news[j]? = some u → w.cell? ⟨vb, vo + j, none⟩ = some u)
    (h1c : ∀ v ∈ (cur.toList.drop (i * 3)).take ((n - i) * 3), v.oneCell' = true) (h1v : ∀ v ∈ news, v.oneCell' = true) :
    Calls Go.Proofs.Tryz.prog 167 #[.slice (some ⟨g, 0, none⟩) n c, .int .i64 i, .slice (some ⟨vb, vo, none⟩) 1 vc] w fun e w' => e = .returned (.slice (some ⟨g, 0, none⟩) (n + 1) c) ∧
      w' = w.drew.setRow g (cur.toList.take (i * 3) ++ news ++ (cur.toList.drop (i * 3)).take ((n - i) * 3) ++ cur.toList.drop ((n + 1) * 3)).toArray := by
  have hc63 : c ≤ 9223372036854775807 := by simp only [maxLen] at hc; omega
  have hov : ∀ lb cb, (callFunc 186 #[.slice (some ⟨vb, vo, none⟩) 1 vc, .slice (some ⟨g, (i + 1) * 3, none⟩) lb cb]).run Go.Proofs.Tryz.prog w = .ok (.value (.bool false)) w := fun lb cb => by
    rw [run_callFunc_extern Go.Proofs.Tryz.func186 (by kernel_rfl) (by kernel_rfl) (by kernel_rfl) (e := Extern.SlicesOverlaps.overlaps #[24, 24] #[4]) (by kernel_rfl),
      ac_run_overlaps_own w 24 4 65 Go.Proofs.Tryz.underlying24 3 Go.Proofs.Tryz.sizeOf65 ⟨vb, vo, none⟩ ⟨g, (i + 1) * 3, none⟩ 1 vc lb cb hvb hv hA hg]
    rfl
  have hcl : cur.toList.length = c * 3 := by simpa using hcs
  have hgc : ∀ (W : World) (X : Array Value), W.heap[g]? = some (.cells X 65 (0, 0)) → ∀ j, W.cell? ⟨g, j, none⟩ = X[j]? := fun W X h j => by simp [World.cell?, h]
  obtain ⟨CS, hCS⟩ : ∃ CS, CS = (cur.toList.drop (i * 3)).take ((n - i) * 3) := ⟨_, rfl⟩
  rw [← hCS] at h1c ⊢
  have hCl : CS.length = (n - i) * 3 := by rw [hCS, List.length_take, List.length_drop, hcl]; omega
  obtain ⟨R1, hR1⟩ : ∃ R1 : Array Value, R1 = (cur.toList.take ((i + 1) * 3) ++ CS ++ cur.toList.drop ((i + 1) * 3 + CS.length)).toArray := ⟨_, rfl⟩
  have hR1s : R1.size = c * 3 := by
    rw [hR1]; simp only [List.size_toArray, List.length_append, List.length_take, List.length_drop, hcl, hCl]; omega
  have hcp1 : ∀ ty dc sc, (Builtin.copy_ #[24, 24] ty #[.slice (some ⟨g, (i + 1) * 3, none⟩) (n - i) dc, .slice (some ⟨g, i * 3, none⟩) (n + 1 - i) sc]).run Go.Proofs.Tryz.prog w.drew = .ok (goInt (n - i : Nat)) (w.drew.setRow g R1) := fun ty dc sc => by
    have hmin : Nat.min (n + 1 - i) (n - i) = n - i := by simp only [Nat.min_def]; split <;> omega
    have := ac_run_copy_rows (P := Go.Proofs.Tryz.prog) w.drew 24 24 ty 65 3 g ((i + 1) * 3) (n - i) dc ⟨g, i * 3, none⟩ (n + 1 - i) sc cur 65 CS Go.Proofs.Tryz.underlying24 Go.Proofs.Tryz.sizeOf65 hg (by rw [hmin, hCl])
      (fun j v hj => by
        rw [Addr.add_lit, hgc w.drew cur hg]
        rw [hCS, List.getElem?_take] at hj
        split at hj
        · rw [List.getElem?_drop] at hj; simpa using hj
        · cases hj) (by rw [hCl]; omega) h1c
    rw [hmin, ← hR1] at this
    exact this
  obtain ⟨W1, hW1⟩ : ∃ W1, W1 = w.drew.setRow g R1 := ⟨_, rfl⟩
  have hW1g : W1.heap[g]? = some (.cells R1 65 (0, 0)) := by rw [hW1]; exact setRow_heap w.drew g cur R1 65 (0, 0) hg
  rw [← hW1] at hcp1
  have hcp2 : ∀ ty dc, (Builtin.copy_ #[24, 24] ty #[.slice (some ⟨g, i * 3, none⟩) (n + 1 - i) dc, .slice (some ⟨vb, vo, none⟩) 1 vc]).run Go.Proofs.Tryz.prog W1 = .ok (goInt (1 : Nat)) (W1.setRow g (R1.toList.take (i * 3) ++ news ++ R1.toList.drop (i * 3 + news.length)).toArray) := fun ty dc => by
    have hmin : Nat.min 1 (n + 1 - i) = 1 := by simp only [Nat.min_def]; split <;> omega
    have := ac_run_copy_rows (P := Go.Proofs.Tryz.prog) W1 24 24 ty 65 3 g (i * 3) (n + 1 - i) dc ⟨vb, vo, none⟩ 1 vc R1 65 news Go.Proofs.Tryz.underlying24 Go.Proofs.Tryz.sizeOf65 hW1g (by rw [hmin, hnl])
      (fun j v hj => by
        rw [Addr.add_lit, hW1]
        have : (w.drew.setRow g R1).heap[vb]? = w.drew.heap[vb]? := setRow_other w.drew g vb _ hvb
        exact (World.cell?_of_block (w := w.drew) (a := ⟨vb, vo + j, none⟩) this).trans (hnews j v hj)) (by rw [hnl]; omega) h1v
    rw [hmin] at this
    exact this
  have hfin : W1.setRow g (R1.toList.take (i * 3) ++ news ++ R1.toList.drop (i * 3 + news.length)).toArray = w.drew.setRow g (cur.toList.take (i * 3) ++ news ++ CS ++ cur.toList.drop ((n + 1) * 3)).toArray := by
    rw [hW1, setRow_setRow]
    congr 2
    have e1 : R1.toList = cur.toList.take ((i + 1) * 3) ++ (CS ++ cur.toList.drop ((n + 1) * 3)) := by
      rw [hR1, List.append_assoc, hCl, ← Nat.add_mul, show i + 1 + (n - i) = n + 1 by omega]
    have hl : (cur.toList.take ((i + 1) * 3)).length = i * 3 + 3 := by rw [List.length_take, hcl]; omega
    rw [e1, hnl, List.take_append_of_le_length (by omega), List.take_take, Nat.min_eq_left (by omega), ← hl, List.drop_left]
    simp only [List.append_assoc]
  clear hW1 hR1 hCS
  have hz1 : ¬ ((1 : Int) = 0) := by omega
  have hz2 : ¬ ((i : Int) = (n : Int)) := by omega
  have hw1 : IntKind.i64.wrap ((i : Int) + 1) = (i : Int) + 1 := by rw [IntKind.wrap_i64]; omega
  have hb1 : (0 : Int) ≤ (i : Int) + 1 := by omega
  have hin : i ≤ n := by omega
  have htn : ((i : Int) + 1).toNat = i + 1 := by omega
  have hb2 : ¬ (c = i + 1) := by omega
  have hb3 : (i : Int) ≤ (n : Int) + 1 := by omega
  have hb4 : ¬ (c = i) := by omega
  have mixed : Go.Proofs.Tryz.prog.follows .mixedOrders = true := by kernel_rfl
  go_enter Go.Proofs.Tryz.func167, Go.Proofs.Tryz.ntmps167
  go_wp2_with (simp only [hov])
  go_region_law_o (refine step_copy_runI rfl _ _ 24 24 rfl _ _ (by simp [Act.eval, Act.put]) (by simp [Act.eval, Act.put]) (hcp1 _ _ _) ?_)
  go_wp2_with (at_builtin; refine wpList_copy_runI _ rfl _ _ 24 24 rfl _ _ rfl rfl (hcp2 _ _) ?_)
  go_ret
  exact ⟨rfl, by rw [← hfin, List.append_assoc, hnl]⟩

set_option maxHeartbeats 4000000 in
set_option maxRecDepth 100000 in
theorem ac_ins_grow (g n c i vb vo vc : Nat) (cur : Array Value) (news : List Value) (w : World) (hi : i < n) (hnc : n ≤ c) (hroom : c < n + 1) (hbig : (n + 1) * 40 ≤ 140737488355328) (hg : w.heap[g]? = some (.cells cur 65 (0, 0))) (hcs : cur.size = c * 3)
    (hvw : vb < w.heap.size) (hnl : news.length = 3) (hnews : ∀ j u, news[j]? = some u → w.cell? ⟨vb, vo + j, none⟩ = some u)
    (h1c : ∀ v ∈ (cur.toList.drop (i * 3)).take ((n - i) * 3), v.oneCell' = true) (h1v : ∀ v ∈ news, v.oneCell' = true) :
    Calls Go.Proofs.Tryz.prog 167 #[.slice (some ⟨g, 0, none⟩) n c, .int .i64 i, .slice (some ⟨vb, vo, none⟩) 1 vc] w fun e w' => ∃ G R, e = .returned (.slice (some ⟨w.heap.size, 0, none⟩) (n + 1) G) ∧ n + 1 ≤ G ∧ G ≤ maxLen ∧
      w.grownBy w' (some g) ∧ w'.heap[w.heap.size]? = some (.cells R 65 (0, 0)) ∧ R.size = G * 3 ∧ R.toList.take ((n + 1) * 3) = cur.toList.take (i * 3) ++ news ++ (cur.toList.drop (i * 3)).take ((n - i) * 3) := by
  have hcl : cur.toList.length = c * 3 := by simpa using hcs
  obtain ⟨i0, hi0, hz0, hzs, hzb⟩ := info_parts (show (Go.Proofs.Tryz.prog.info? 65).map (fun i => (i.zero, i.size, i.bytes)) = some (some (.agg #[.int .i64 0, .int .i64 0, .slice none 0 0]), 3, 40) by kernel_rfl)
  have hgc : ∀ (W : World) (b : Nat) (X : Array Value) (t : TypeId) (f : Nat × Nat), W.heap[b]? = some (.cells X t f) → ∀ j, W.cell? ⟨b, j, none⟩ = X[j]? := fun W b X t f h j => by simp [World.cell?, h]
  have hgw : g < w.heap.size := (Array.getElem?_eq_some_iff.1 hg).1
  have hik : i + (n + 1 - i) = n + 1 := by omega
  have hkk : (n : Int) + 1 - (i : Int) = ((n + 1 - i : Nat) : Int) := by omega
  have hold : (Builtin.firstCells i0.size i (.slice (some ⟨g, 0, none⟩) i c)).run Go.Proofs.Tryz.prog w.drew = .ok (cur.toList.take (i * 3)).toArray w.drew := by
    rw [hzs]
    exact run_firstCells_some w.drew 3 i ⟨g, 0, none⟩ i c (cur.toList.take (i * 3)) (by rw [List.length_take, hcl]; omega) (fun j v hj => by
      rw [Addr.add_lit, hgc w.drew g cur _ _ hg]
      rw [List.getElem?_take] at hj
      split at hj
      · simpa using hj
      · cases hj)
  obtain ⟨G, hG⟩ : ∃ G, G = grownCap w (n + 1) c 65 := ⟨_, rfl⟩
  obtain ⟨R0, hR0⟩ : ∃ R0 : Array Value, R0 = (cur.toList.take (i * 3)).toArray ++ Builtin.zeroCells (Value.agg #[.int .i64 0, .int .i64 0, .slice none 0 0]).cells (n + 1 - i) ++ Builtin.zeroCells (Value.agg #[.int .i64 0, .int .i64 0, .slice none 0 0]).cells (G - (n + 1)) := ⟨_, rfl⟩
  have hrz : ∀ ty, (Builtin.append_ #[24, 3] ty #[.slice (some ⟨g, 0, none⟩) i c, .int .i64 ((n : Int) + 1 - (i : Int))]).run Go.Proofs.Tryz.prog w = .ok (.slice (some ⟨w.heap.size, 0, none⟩) (n + 1) G) (w.drew.alloc (.cells R0 65)) := fun ty => by
    have h := Lib.run_append_grow_zeros w 24 3 ty 65 i0 _ .i64 .i64 Go.Proofs.Tryz.underlying24 Go.Proofs.Tryz.underlying3 hi0 hz0 (some ⟨g, 0, none⟩) i c _ hold (n + 1 - i) (by omega) (by omega) (by omega) (by omega) (by rw [hzb]; omega) (by rw [hzb, hik]; exact growslice_fits hroom hbig)
    rw [hik] at h
    rw [hkk, hG, hR0, hG]
    exact h
  have hGn : n + 1 ≤ G := by rw [hG]; exact grownCap_ge w _ _ _
  have hGm : G ≤ maxLen := by rw [hG]; exact grownCap_le_maxLen w (n + 1) c 65 (by unfold maxLen; omega)
  have hG63 : G ≤ 9223372036854775807 := by unfold maxLen at hGm; omega
  have hR0s : R0.size = G * 3 := by
    rw [hR0]
    have hz6 : (Value.agg #[.int .i64 0, .int .i64 0, .slice none 0 0]).cells.size = 3 := rfl
    simp only [Array.size_append, List.size_toArray, size_zeroCells, hz6, List.length_take, hcl]
    omega
  have hR0t : R0.toList.take (i * 3) = cur.toList.take (i * 3) := by
    rw [hR0]
    simp only [Array.toList_append, List.append_assoc]
    have hl : (cur.toList.take (i * 3)).length = i * 3 := by rw [List.length_take, hcl]; omega
    rw [List.take_append_of_le_length (by rw [hl]; exact Nat.le_refl _), List.take_of_length_le (by rw [hl]; exact Nat.le_refl _)]
  clear hG hR0
  obtain ⟨W1, hW1⟩ : ∃ W1, W1 = w.drew.alloc (.cells R0 65) := ⟨_, rfl⟩
  rw [← hW1] at hrz
  have hW1N : W1.heap[w.heap.size]? = some (.cells R0 65 (0, 0)) := by rw [hW1]; exact heap_alloc_new w.drew _
  have hW1o : ∀ b, b < w.heap.size → W1.heap[b]? = w.heap[b]? := fun b hb => by rw [hW1]; exact heap_alloc_old w.drew _ hb
  obtain ⟨CS, hCS⟩ : ∃ CS, CS = (cur.toList.drop (i * 3)).take ((n - i) * 3) := ⟨_, rfl⟩
  rw [← hCS] at h1c ⊢
  have hCl : CS.length = (n - i) * 3 := by rw [hCS, List.length_take, List.length_drop, hcl]; omega
  obtain ⟨R1, hR1⟩ : ∃ R1 : Array Value, R1 = (R0.toList.take (i * 3) ++ news ++ R0.toList.drop (i * 3 + news.length)).toArray := ⟨_, rfl⟩
  have hR0l : R0.toList.length = G * 3 := by simpa using hR0s
  have hR1s : R1.size = G * 3 := by
    rw [hR1]; simp only [List.size_toArray, List.length_append, List.length_take, List.length_drop, hR0l, hnl]; omega
  have hcpA : ∀ ty dc, (Builtin.copy_ #[24, 24] ty #[.slice (some ⟨w.heap.size, i * 3, none⟩) (n + 1 - i) dc, .slice (some ⟨vb, vo, none⟩) 1 vc]).run Go.Proofs.Tryz.prog W1 = .ok (goInt (1 : Nat)) (W1.setRow w.heap.size R1) := fun ty dc => by
    have hmin : Nat.min 1 (n + 1 - i) = 1 := by simp only [Nat.min_def]; split <;> omega
    have := ac_run_copy_rows (P := Go.Proofs.Tryz.prog) W1 24 24 ty 65 3 w.heap.size (i * 3) (n + 1 - i) dc ⟨vb, vo, none⟩ 1 vc R0 65 news Go.Proofs.Tryz.underlying24 Go.Proofs.Tryz.sizeOf65 hW1N (by rw [hmin, hnl])
      (fun j v hj => by
        rw [Addr.add_lit]
        exact (World.cell?_of_block (w := w) (a := ⟨vb, vo + j, none⟩) (hW1o vb hvw)).trans (hnews j v hj)) (by rw [hnl]; omega) h1v
    rw [hmin, ← hR1] at this
    exact this
  obtain ⟨W2, hW2⟩ : ∃ W2, W2 = W1.setRow w.heap.size R1 := ⟨_, rfl⟩
  rw [← hW2] at hcpA
  have hW2N : W2.heap[w.heap.size]? = some (.cells R1 65 (0, 0)) := by rw [hW2]; exact setRow_heap W1 w.heap.size R0 R1 65 (0, 0) hW1N
  have hW2o : ∀ b, b < w.heap.size → W2.heap[b]? = w.heap[b]? := fun b hb => by rw [hW2]; exact (setRow_other W1 w.heap.size b _ (by omega)).trans (hW1o b hb)
  have hcpB : ∀ ty dc sc, (Builtin.copy_ #[24, 24] ty #[.slice (some ⟨w.heap.size, (i + 1) * 3, none⟩) (n - i) dc, .slice (some ⟨g, i * 3, none⟩) (n - i) sc]).run Go.Proofs.Tryz.prog W2.drew = .ok (goInt (n - i : Nat)) (W2.drew.setRow w.heap.size (R1.toList.take ((i + 1) * 3) ++ CS ++ R1.toList.drop ((i + 1) * 3 + CS.length)).toArray) := fun ty dc sc => by
    have hmin : Nat.min (n - i) (n - i) = n - i := Nat.min_self _
    have := ac_run_copy_rows (P := Go.Proofs.Tryz.prog) W2.drew 24 24 ty 65 3 w.heap.size ((i + 1) * 3) (n - i) dc ⟨g, i * 3, none⟩ (n - i) sc R1 65 CS Go.Proofs.Tryz.underlying24 Go.Proofs.Tryz.sizeOf65 hW2N (by rw [hmin, hCl])
      (fun j v hj => by
        rw [Addr.add_lit, hgc W2.drew g cur 65 (0, 0) ((hW2o g hgw).trans hg)]
        rw [hCS, List.getElem?_take] at hj
        split at hj
        · rw [List.getElem?_drop] at hj; simpa using hj
        · cases hj) (by rw [hCl]; omega) h1c
    rw [hmin] at this
    exact this
  obtain ⟨R2, hR2⟩ : ∃ R2 : Array Value, R2 = (R1.toList.take ((i + 1) * 3) ++ CS ++ R1.toList.drop ((i + 1) * 3 + CS.length)).toArray := ⟨_, rfl⟩
  rw [← hR2] at hcpB
  have hR1l : R1.toList.length = G * 3 := by simpa using hR1s
  have hend : ∀ w', w' = W2.drew.setRow w.heap.size R2 → w.grownBy w' (some g) ∧ w'.heap[w.heap.size]? = some (.cells R2 65 (0, 0)) ∧ R2.size = G * 3 ∧ R2.toList.take ((n + 1) * 3) = cur.toList.take (i * 3) ++ news ++ CS := by
    rintro w' rfl
    refine ⟨?_, setRow_heap W2.drew w.heap.size R1 R2 65 (0, 0) hW2N, ?_, ?_⟩
    · subst hW2; subst hW1
      exact ⟨rfl, rfl, rfl, by simp, fun k hk _ => (setRow_other _ w.heap.size k _ (by omega)).trans (hW2o k hk)⟩
    · rw [hR2]; simp only [List.size_toArray, List.length_append, List.length_take, List.length_drop, hR1l, hCl]; omega
    · have hl0 : (R0.toList.take (i * 3)).length = i * 3 := by rw [List.length_take, hR0l]; omega
      have e1 : R1.toList.take ((i + 1) * 3) = cur.toList.take (i * 3) ++ news := by
        rw [hR1, hR0t, show (i + 1) * 3 = (cur.toList.take (i * 3) ++ news).length by rw [List.length_append, List.length_take, hcl, hnl]; omega]
        simp only []
        exact List.take_left
      rw [hR2, e1, show (n + 1) * 3 = (cur.toList.take (i * 3) ++ news ++ CS).length by rw [List.length_append, List.length_append, List.length_take, hcl, hnl, hCl]; omega]
      exact List.take_left
  clear hW2 hW1 hR1 hR2 hCS hkk hik hold
  have hz1 : ¬ ((1 : Int) = 0) := by omega
  have hz2 : ¬ ((i : Int) = (n : Int)) := by omega
  have hz3 : (c : Int) < (n : Int) + 1 := by omega
  have hw1 : IntKind.i64.wrap ((i : Int) + 1) = (i : Int) + 1 := by rw [IntKind.wrap_i64]; omega
  have hb1 : (0 : Int) ≤ (i : Int) + 1 := by omega
  have hin : i ≤ n := by omega
  have htn : ((i : Int) + 1).toNat = i + 1 := by omega
  have hGi : ¬ (G = i) := by omega
  have hGim : ¬ (G = i + 1) := by omega
  have hci : ¬ (c = i) := by omega
  have hb3 : (i : Int) ≤ (n : Int) := by omega
  have mixed : Go.Proofs.Tryz.prog.follows .mixedOrders = true := by kernel_rfl
  go_enter Go.Proofs.Tryz.func167, Go.Proofs.Tryz.ntmps167
  go_wp2_with (first
    | (at_builtin; refine Lib.wpList_append_run _ rfl _ _ _ _ rfl _ _ rfl rfl _ _ (hrz _) ?_)
    | (at_builtin; refine wpList_copy_runI _ rfl _ _ 24 24 rfl _ _ rfl rfl (hcpA _ _) ?_))
  go_region_law_o (refine step_copy_runI rfl _ _ 24 24 rfl _ _ (by simp [Act.eval, Act.put]) (by simp [Act.eval, Act.put]) (hcpB _ _ _) ?_)
  go_wp2
  go_ret
  exact ⟨G, R2, rfl, hGn, hGm, hend _ rfl⟩

set_option maxHeartbeats 4000000 in
set_option maxRecDepth 100000 in
theorem ac_ins_end (base : Nat) (v : Value) (n vb vo vc : Nat) (xs news : List Value) (w : World) (hown : w.ownsRow base 65 3 v n xs) (hbig : (n + 1) * 40 ≤ 140737488355328) (hbase : base ≤ w.heap.size)
    (hnl : news.length = 3) (hnews : ∀ j u, news[j]? = some u → w.cell? ⟨vb, vo + j, none⟩ = some u) (h1v : ∀ v ∈ news, v.oneCell' = true) :
    Calls Go.Proofs.Tryz.prog 167 #[v, .int .i64 n, .slice (some ⟨vb, vo, none⟩) 1 vc] w fun e w' => ∃ v', e = .returned v' ∧ w'.ownsRow base 65 3 v' (n + 1) (xs ++ news) ∧ w.grownBy w' v.ownBlock ∧ (v'.ownBlock = v.ownBlock ∨ v'.ownBlock = some w.heap.size) := by
  obtain ⟨i0, hi0, hz0, hzs, hzb⟩ := info_parts (show (Go.Proofs.Tryz.prog.info? 65).map (fun i => (i.zero, i.size, i.bytes)) = some (some (.agg #[.int .i64 0, .int .i64 0, .slice none 0 0]), 3, 40) by kernel_rfl)
  obtain ⟨v', w', hr, hown', hgrow, _, hat⟩ := run_append_own_at (P := Go.Proofs.Tryz.prog) w base 24 24 65 i0 _ 3 40 Go.Proofs.Tryz.underlying24 hi0 hz0 hzs hzb rfl (by decide) v n xs hown
    ⟨vb, vo, none⟩ 1 vc news (by rw [hnl]) (fun j u hj => by rw [addr_add]; exact hnews j u hj) h1v (by unfold maxLen; omega) hbig hbase
  have hfin : ∀ e : Ending, e = .returned v' → ∃ v', e = .returned v' ∧ w'.ownsRow base 65 3 v' (n + 1) (xs ++ news) ∧ w.grownBy w' v.ownBlock ∧ (v'.ownBlock = v.ownBlock ∨ v'.ownBlock = some w.heap.size) := fun e he => ⟨v', he, hown', hgrow, hat⟩
  have hn63 : (n : Int) ≤ 9223372036854775807 := by omega
  rcases hown.2 with ⟨rfl, rfl⟩ | ⟨g, cap, cur, rfl, _, hg, hnc, hcm, hcs, _⟩
  · clear hown hown' hgrow hat
    go_enter Go.Proofs.Tryz.func167, Go.Proofs.Tryz.ntmps167
    go_wp2_with (at_builtin; refine Lib.wpList_append_run _ rfl _ _ _ _ rfl _ _ rfl rfl _ _ hr ?_)
    go_ret
    exact hfin _ rfl
  · have hc63 : cap ≤ 9223372036854775807 := by unfold maxLen at hcm; omega
    clear hown hown' hgrow hat
    by_cases hcn : cap = n
    · subst hcn
      go_enter Go.Proofs.Tryz.func167, Go.Proofs.Tryz.ntmps167
      go_wp2_with (at_builtin; refine Lib.wpList_append_run _ rfl _ _ _ _ rfl _ _ rfl rfl _ _ hr ?_)
      go_ret
      exact hfin _ rfl
    · go_enter Go.Proofs.Tryz.func167, Go.Proofs.Tryz.ntmps167
      go_wp2_with (at_builtin; refine Lib.wpList_append_run _ rfl _ _ _ _ rfl _ _ rfl rfl _ _ hr ?_)
      go_ret
      exact hfin _ rfl

end Go.Vm

/- slices.Insert of one api.Tx, as a function in place. -/
set_option linter.unusedVariables false
set_option linter.unusedSimpArgs false
namespace Go.Vm
open Go Go.RowKit Go.Shelf Go.Proofs

theorem ac_ins_calls (base : Nat) (v : Value) (n i vb vo vc : Nat) (xs news : List Value) (w : World) (hown : w.ownsRow base 65 3 v n xs) (hi : i ≤ n) (hbig : (n + 1) * 40 ≤ 140737488355328) (hbase : base ≤ w.heap.size)
    {tA : TypeId} {fA : Nat × Nat} {cA : Array Value} (hv : w.heap[vb]? = some (.cells cA tA fA)) (hA : cA.size ≠ 0) (hvb : ∀ b, pblk v = some b → vb ≠ b)
    (hnl : news.length = 3) (hnews : ∀ j u, news[j]? = some u → w.cell? ⟨vb, vo + j, none⟩ = some u) (h1v : ∀ v ∈ news, v.oneCell' = true) (h1x : ∀ v ∈ xs, v.oneCell' = true) :
    Calls Go.Proofs.Tryz.prog 167 #[v, .int .i64 i, .slice (some ⟨vb, vo, none⟩) 1 vc] w fun e w' => ∃ v', e = .returned v' ∧ w'.ownsRow base 65 3 v' (n + 1) (xs.take (i * 3) ++ news ++ xs.drop (i * 3)) ∧ w.grownBy w' v.ownBlock ∧
      (v'.ownBlock = v.ownBlock ∨ v'.ownBlock = some w.heap.size) := by
  have hxl := hown.1
  rcases Nat.lt_or_ge i n with hlt | hge
  · have hvw : vb < w.heap.size := (Array.getElem?_eq_some_iff.1 hv).1
    rcases hown.2 with ⟨rfl, rfl⟩ | ⟨g, cap, cur, rfl, hbg, hg, hnc, hcm, hcs, htake⟩
    · omega
    · have hcl : cur.toList.length = cap * 3 := by simpa using hcs
      have hcs' : cur.size = cap * 3 := hcs
      have hCS : (cur.toList.drop (i * 3)).take ((n - i) * 3) = xs.drop (i * 3) := by
        rw [← htake, List.drop_take, Nat.sub_mul]
      have hT : cur.toList.take (i * 3) = xs.take (i * 3) := by
        rw [← htake, List.take_take, Nat.min_eq_left (by omega)]
      have hlen : (xs.take (i * 3) ++ news ++ xs.drop (i * 3)).length = (n + 1) * 3 := by
        simp only [List.length_append, List.length_take, List.length_drop, hnl]; omega
      have h1c : ∀ v ∈ (cur.toList.drop (i * 3)).take ((n - i) * 3), v.oneCell' = true := fun v hv => by rw [hCS] at hv; exact h1x v (List.mem_of_mem_drop hv)
      by_cases hroom : n + 1 ≤ cap
      · refine (ac_ins_shift g n cap i vb vo vc cur news w hlt hroom hcm hg hcs' (hvb g rfl) hv hA hnl hnews h1c h1v).mono ?_
        rintro e w' ⟨rfl, rfl⟩
        refine ⟨_, rfl, ⟨hlen, .inr ⟨g, cap, _, rfl, hbg, setRow_heap w.drew g cur _ 65 (0, 0) hg, hroom, hcm, ?_, ?_⟩⟩, ⟨rfl, rfl, rfl, by simp, fun k _ hk => setRow_other w.drew g k _ (fun e => hk (by simp [Value.ownBlock, e]))⟩, .inl rfl⟩
        · rw [hCS, hT]
          simp only [List.size_toArray, List.length_append, List.length_take, List.length_drop, hnl, hcl]
          omega
        · rw [hCS, hT, ← hlen]
          simp only []
          exact List.take_left
      · refine (ac_ins_grow g n cap i vb vo vc cur news w hlt hnc (by omega) hbig hg hcs' hvw hnl hnews h1c h1v).mono ?_
        rintro e w' ⟨G, R, rfl, hG, hGm, hgr, hh, hRs, hRt⟩
        refine ⟨_, rfl, ⟨hlen, .inr ⟨w.heap.size, G, R, rfl, hbase, hh, hG, hGm, hRs, ?_⟩⟩, hgr, .inr rfl⟩
        rw [hRt, hCS, hT]
  · have : i = n := by omega
    subst this
    refine (ac_ins_end base v i vb vo vc xs news w hown hbig hbase hnl hnews h1v).mono ?_
    rintro e w' ⟨v', rfl, h1, h2, h3⟩
    refine ⟨v', rfl, ?_, h2, h3⟩
    rw [← hxl, List.take_length, List.drop_length, List.append_nil]
    exact h1

def I_kb9 : List V1 → Objs → Option (TV × Objs)
  | [.one (.own id n), .one (.d (.sc (.int k i))), .one (.d (.sl [x]))], objs => match objs[id]? with
    | some (.arr e k' xs) => if k = .i64 ∧ e = 65 ∧ k' = 3 ∧ xs.length = n ∧ 0 ≤ i ∧ i ≤ n ∧ (n + 1) * 40 ≤ 140737488355328 ∧ x.length = 3 then
        some (.v (.one (.own id (n + 1))), objs.set id (.arr 65 3 (xs.take i.toNat ++ x :: xs.drop i.toNat))) else none
    | _ => none
  | _, _ => none

theorem en_kb9 : Enters Go.Proofs.Tryz.prog 167 := ⟨_, Go.Proofs.Tryz.func167, rfl, rfl⟩

theorem ic_kb9 : InlC Go.Proofs.Tryz.prog 167 I_kb9 := by
  intro Φ θ base w objs vs args v objs' hs ha h
  unfold I_kb9 at h
  split at h
  case h_2 => cases h
  case h_1 id n k i x =>
  split at h
  case h_2 => cases h
  case h_1 e k' xs hob =>
  split at h
  case isFalse => cases h
  case isTrue hc =>
  obtain ⟨rfl, rfl, rfl, hxn, hi0, hin, hbig, hxl⟩ := hc
  simp only [Option.some.injEq, Prod.mk.injEq] at h
  obtain ⟨rfl, rfl⟩ := h
  obtain ⟨u0, us0, rfl, h0, hus⟩ := ha.cons_left
  obtain ⟨u1, us1, rfl, h1, hus⟩ := hus.cons_left
  obtain ⟨u2, us2, rfl, h2, hus⟩ := hus.cons_left
  have := hus.nil_left; subst this
  have hθ := own_val (Φ := Φ) h0 (Lr_of hob) hxn.symm
  subst hθ
  have hu1 : u1 = .int .i64 i := (den_sc h1).1
  subst hu1
  obtain ⟨vs, hown, hden, hall, hk0, hno⟩ := hs.ob id _ hob
  obtain ⟨b, off, vc, news, rfl, hdn, hat, hnl, hbne⟩ := den_flat (k := 3) h2 (by simp) hs.sat (by simpa using hxl)
  simp only [List.flatten_cons, List.flatten_nil, List.append_nil, List.length_cons, List.length_nil, Nat.zero_add, Nat.one_mul] at hdn hnl
  have h1v : ∀ u ∈ news, u.oneCell' = true := fun u hu => by
    obtain ⟨j, hj, rfl⟩ := List.getElem_of_mem hu
    exact Den.one (hdn.2 j _ _ (List.getElem?_eq_getElem (by rw [hdn.1]; exact hj)) (List.getElem?_eq_getElem hj))
  have h1x : ∀ u ∈ vs, u.oneCell' = true := fun u hu => by
    obtain ⟨j, hj, rfl⟩ := List.getElem_of_mem hu
    exact Den.one (hden.2 j _ _ (List.getElem?_eq_getElem (by rw [hden.1]; exact hj)) (List.getElem?_eq_getElem hj))
  have hc0 : w.cell? ⟨b, off + 0, none⟩ = some news[0] := hat 0 _ (List.getElem?_eq_getElem (by omega))
  obtain ⟨cA, tA, fA, hv, hA⟩ : ∃ cA tA fA, w.heap[b]? = some (.cells cA tA fA) ∧ cA.size ≠ 0 := by
    unfold World.cell? at hc0
    split at hc0
    · rename_i c t f heq
      refine ⟨c, t, f, heq, fun e => ?_⟩
      simp [Array.getElem?_eq_none (show c.size ≤ off by omega)] at hc0
    · cases hc0
  have hii : ((i.toNat : Nat) : Int) = i := by omega
  have hcall := ac_ins_calls base (θ id) xs.length i.toNat b off vc vs news w hown (by omega) (by omega) hs.base hv hA (fun b' hb' e => hbne b' (hno b' hb') e.symm) hnl (fun j u hj => hat j u hj) h1v h1x
  rw [hii] at hcall
  refine hcall.mono ?_
  rintro e w' ⟨v', rfl, hown', hgrow, hat'⟩
  have hvb := own_pblk hown
  have hvb' := own_pblk hown'
  have hgrowB : Below base w w' := (Below.refl base w).grown hgrow hs.base (fun k hk => by
    have := hown.lt k hk; omega)
  have hlen : (xs.take i.toNat ++ x :: xs.drop i.toNat).length = xs.length + 1 := by simp; omega
  have hgo : Go2 θ (thAt θ id v') objs (objs.set id (.arr 65 3 (xs.take i.toNat ++ x :: xs.drop i.toNat))) :=
    go_set hob (fun m' hm' => ⟨xs.length, rfl, by simp only [len1, hlen] at hm'; injection hm' with hm'; omega, fun e => by simp only [len1, hlen] at hm'; injection hm' with hm'; omega⟩)
  have hno' : ∀ b, pblk v' = some b → ∀ o, Φ b o = none := by
    intro b hb o
    rcases hat' with h | h
    · rw [hvb', h, ← hvb] at hb; exact hno b hb o
    · rw [hvb', h] at hb; injection hb with hb; subst hb; exact sat_none hs.sat o
  have hkeepB : ∀ b, b < w.heap.size → (∀ b', pblk (θ id) = some b' → b ≠ b') → w'.heap[b]? = w.heap[b]? := fun b hb hne' =>
    hgrow.block b hb (fun e => by rw [← hvb] at e; exact hne' b e.symm rfl)
  have hfl : (xs.take i.toNat ++ x :: xs.drop i.toNat).flatten = xs.flatten.take (i.toNat * 3) ++ x ++ xs.flatten.drop (i.toNat * 3) := by
    rw [List.flatten_append, List.flatten_cons, flat_take hall, flat_drop' hall, List.append_assoc]
  have hst := hs.change (w' := w') (ob := .arr 65 3 (xs.take i.toNat ++ x :: xs.drop i.toNat)) v' hob hgo
    ⟨_, by rw [thAt_same, hlen]; exact hown', by
      rw [hfl]
      exact ((hden.take _).append hdn).append (hden.drop _), fun y hy => by
        rcases List.mem_append.1 hy with h | h
        · exact hall y (List.mem_of_mem_take h)
        · rcases List.mem_cons.1 h with rfl | h
          · exact hxl
          · exact hall y (List.mem_of_mem_drop h), by omega, fun b hb o => by rw [thAt_same] at hb; exact hno' b hb o⟩
    (fun b o u hu => by
      have hb := hs.sat.lt hu
      have := hkeepB b hb (fun b' hb' e => by subst e; rw [hno b hb'] at hu; cases hu)
      exact (World.cell?_of_block (w := w) (a := ⟨b, o, none⟩) this).trans (hs.sat b o u hu))
    (fun j b hj hm => by
      have hb := hs.mblk_ge hm
      have hne' : ∀ b', pblk (θ id) = some b' → b ≠ b' := fun b' hb' e => by
        subst e
        exact hj (hs.apart j id b hm (by unfold mblk; rw [hob]; exact hb'))
      refine ⟨hkeepB b hb.2 hne', fun e => ?_⟩
      rcases hat' with h | h
      · rw [hvb', h, ← hvb] at e; exact hne' b e rfl
      · rw [hvb', h] at e; injection e with e; omega)
    (Nat.le_trans hs.base hgrow.size)
  refine ⟨v', Φ, thAt θ id v', rfl, ⟨Le.refl _, hgo, New.refl _ _, hgrowB⟩, hst, ?_, some (xs.length + 1), ?_, fun m hm => ⟨by injection hm with hm; omega, fun _ => (thAt_same _ _ _).symm⟩⟩
  · rcases hown'.2 with ⟨_, h2⟩ | ⟨g, cap, cur, hv', _, _, hnc', _⟩
    · omega
    · exact ⟨_, cap, by rw [hv', hxn], fun _ => ⟨g, rfl⟩, by omega⟩
  · rw [← hlen]
    exact Lr_of (by rw [List.getElem?_set_self (List.getElem?_eq_some_iff.1 hob).1])

end Go.Vm

/- shard.book and shard.Get, by hand: a map filled in a loop over slices.Backward. -/
set_option linter.unusedVariables false
set_option linter.unusedSimpArgs false
namespace Go.Proofs
open Go.RowKit Go.Shelf

attribute [local go_sem] Oper.semAt_some

abbrev Bk.E := { x : Int // (Lit.int .i64 x).wf = true } × Int × Option Addr × Nat × Nat
def Bk.c1 (v : Bk.E) : Value := .int .i64 v.2.1
def Bk.c2 (v : Bk.E) : Value := .slice v.2.2.1 v.2.2.2.1 v.2.2.2.2
def Bk.enc (v : Bk.E) : Value := .agg #[.int .i64 v.1.1, .int .i64 v.2.1, .slice v.2.2.1 v.2.2.2.1 v.2.2.2.2]
def Bk.upto (V : Nat → Bk.E) (n k : Nat) : List (Nat × Bk.E) := (List.range k).map fun j => (n - 1 - j, V (n - 1 - j))
theorem Bk.upto_succ (V : Nat → Bk.E) (n k : Nat) : Bk.upto V n (k + 1) = Bk.upto V n k ++ [(n - 1 - k, V (n - 1 - k))] := by simp [Bk.upto, List.range_succ]
theorem Bk.upto_length (V : Nat → Bk.E) (n k : Nat) : (Bk.upto V n k).length = k := by simp [Bk.upto]

def Bk.Kp (n₀ Bs : Nat) (A B : World) : Prop := Below n₀ A B ∧ B.cell? ⟨Bs, 0, none⟩ = A.cell? ⟨Bs, 0, none⟩
theorem Bk.Kp.refl (n₀ Bs : Nat) (A : World) : Bk.Kp n₀ Bs A A := ⟨Below.refl _ _, rfl⟩
theorem Bk.Kp.trans {n₀ Bs : Nat} {A B C : World} (h : Bk.Kp n₀ Bs A B) (k : Bk.Kp n₀ Bs B C) : Bk.Kp n₀ Bs A C := ⟨h.1.trans k.1, k.2.trans h.2⟩

set_option maxRecDepth 100000 in
set_option maxHeartbeats 4000000 in
theorem Bk.back1_in (F : Fence) (n : Nat) (h119 : F.fn 195) (hro : F.round = none) (hn : 1 ≤ n) (l Bs n₀ b off len cap : Nat) (V : Nat → Bk.E) (hreach : len * 40 ≤ 140737488351232) (hb : b < n₀) (J Jx : List (Nat × Bk.E) → World → Prop)
    (hY : ∀ pre x W, J pre W → pre.length < len → YieldAt F (n - 1) Tryz.prog l #[.int .i64 (x.1 : Int), Bk.enc x.2] W fun e W' =>
      (e = .returned (.bool true) ∧ J (pre ++ [x]) W' ∧ Bk.Kp n₀ Bs W W') ∨ (e = .returned (.bool false) ∧ Jx (pre ++ [x]) W'))
    (W : World) (hBs : W.cell? ⟨Bs, 0, none⟩ = some (.slice (some ⟨b, off, none⟩) len cap)) (hc : ∀ j, j < len → W.cell? ⟨b, off + j * 3, none⟩ = some (.int .i64 (V j).1.1) ∧ W.cell? ⟨b, off + j * 3 + 1, none⟩ = some (Bk.c1 (V j)) ∧ W.cell? ⟨b, off + j * 3 + 2, none⟩ = some (Bk.c2 (V j))) (h0 : J [] W) :
    CallsIn F n Tryz.prog 195 #[.func (.yield l) #[] #[], .pointer (some ⟨Bs, 0, none⟩)] W fun e W' => (∃ v, e = .returned v) ∧
      (J (Bk.upto V len len) W' ∨ (∃ pre, Jx pre W')) := by
  refine callsIn_of_wp Tryz.func195 rfl h119 ?_ hro
  simp only [Tryz.ntmps195, List.size_toArray, List.length_cons, List.length_nil, Nat.reduceAdd, Nat.reduceSub, Array.replicate_succ, Array.replicate_zero, List.push_toArray, List.append_toArray, List.nil_append, List.cons_append]
  gi_wp2
  gi_loopw [3] (fun i wr => ∃ k : Nat, k ≤ len ∧ i = .int .i64 ((len : Int) - 1 - k) ∧ J (Bk.upto V len k) wr ∧ Bk.Kp n₀ Bs W wr)
    (fun i _ => (intOf i + 1).toNat)
  case atStart => exact ⟨0, Nat.zero_le _, by simp, h0, Bk.Kp.refl _ _ _⟩
  case round =>
    obtain ⟨k, hk, rfl, hJs, hnx⟩ := hrel
    by_cases hlt : k < len
    · obtain ⟨j, hjk⟩ : ∃ j, k + j + 1 = len := ⟨len - 1 - k, by omega⟩
      have hz : ((len : Int) - 1 - k) = (j : Int) := by omega
      rw [hz]
      clear hz
      have hjl : j < len := by omega
      have hbs' : wr.cell? ⟨Bs, 0, none⟩ = some (.slice (some ⟨b, off, none⟩) len cap) := hnx.2.trans hBs
      have hc0 : wr.cell? ⟨b, off + j * 3, none⟩ = some (.int .i64 (V j).1.1) := (hnx.1.cell (p := ⟨b, off + j * 3, none⟩) hb).trans (hc j hjl).1
      have hc1 : wr.cell? ⟨b, off + j * 3 + 1, none⟩ = some (Bk.c1 (V j)) := (hnx.1.cell (p := ⟨b, off + j * 3 + 1, none⟩) hb).trans (hc j hjl).2.1
      have hc2 : wr.cell? ⟨b, off + j * 3 + 2, none⟩ = some (Bk.c2 (V j)) := (hnx.1.cell (p := ⟨b, off + j * 3 + 2, none⟩) hb).trans (hc j hjl).2.2
      obtain ⟨fn, tmps, assign, body, hy, hR⟩ := hY _ (j, V j) wr hJs (by rw [Bk.upto_length]; exact hlt)
      dsimp only [Bk.enc] at hy
      simp only [Bk.c1] at hc1
      simp only [Bk.c2] at hc2
      gi_wp2
      refine hR.mono ?_
      rintro e W3 (⟨rfl, hJ3, hk3⟩ | ⟨rfl, hJx3⟩)
      · gi_wp2
        go_roundw
        case rel =>
          have e1 : len - 1 - k = j := by omega
          exact ⟨k + 1, by omega, by congr 1 <;> omega, by rw [Bk.upto_succ, e1]; exact hJ3, hnx.trans hk3⟩
        case measure => simp [intOf] <;> omega
      · gi_wp2
        refine bodyPost_ret (results_none rfl _ _ _) rfl ?_
        exact ⟨⟨_, rfl⟩, .inr ⟨_, hJx3⟩⟩
    · obtain rfl : k = len := by omega
      gi_wp2
      go_end0
      exact ⟨⟨_, rfl⟩, .inl hJs⟩

theorem Bk.back_in (F : Fence) (n : Nat) (h104 : F.fn 185) (hro : F.round = none) (a : Option Addr) (len cap : Nat) (w : World) :
    CallsIn F n Tryz.prog 185 #[.slice a len cap] w fun e w' => e = .returned (.func (.func 195) #[] #[.pointer (some ⟨w.heap.size, 0, none⟩)]) ∧ w' = w.alloc (.cells #[.slice a len cap] 24) := by
  refine callsIn_of_wp Tryz.func185 rfl h104 ?_ hro
  simp only [Tryz.ntmps185, List.size_toArray, List.length_cons, List.length_nil, Nat.reduceAdd, Nat.reduceSub, Array.replicate_succ, Array.replicate_zero, List.push_toArray, List.append_toArray, List.nil_append, List.cons_append]
  gi_wp2
  go_ret
  exact ⟨rfl, rfl⟩

set_option maxRecDepth 100000 in
set_option maxHeartbeats 2000000 in
theorem Bk.back1_nil_in (F : Fence) (n : Nat) (h119 : F.fn 195) (hro : F.round = none) (l Bs : Nat) (a : Option Addr) (cap : Nat) (J : List (Nat × Bk.E) → World → Prop) (W : World) (hBs : W.cell? ⟨Bs, 0, none⟩ = some (.slice a 0 cap)) (h0 : J [] W) :
    CallsIn F n Tryz.prog 195 #[.func (.yield l) #[] #[], .pointer (some ⟨Bs, 0, none⟩)] W fun e W' => (∃ v, e = .returned v) ∧ J [] W' := by
  refine callsIn_of_wp Tryz.func195 rfl h119 ?_ hro
  simp only [Tryz.ntmps195, List.size_toArray, List.length_cons, List.length_nil, Nat.reduceAdd, Nat.reduceSub, Array.replicate_succ, Array.replicate_zero, List.push_toArray, List.append_toArray, List.nil_append, List.cons_append]
  gi_wp2
  gi_loopw [3] (fun i wr => i = .int .i64 (-1) ∧ J [] wr) (fun _ _ => 0)
  case atStart => exact ⟨rfl, h0⟩
  case round =>
    obtain ⟨rfl, hJs⟩ := hrel
    gi_wp2
    go_end0
    exact ⟨⟨_, rfl⟩, hJs⟩

def Bk.Row (n₀ : Nat) (W : World) (sv : Value) (len : Nat) (V : Nat → Bk.E) : Prop :=
  (len = 0 ∧ ∃ a cap, sv = .slice a 0 cap) ∨ ∃ b off cap, sv = .slice (some ⟨b, off, none⟩) len cap ∧ b < n₀ ∧ ∀ j, j < len → W.cell? ⟨b, off + j * 3, none⟩ = some (.int .i64 (V j).1.1) ∧ W.cell? ⟨b, off + j * 3 + 1, none⟩ = some (Bk.c1 (V j)) ∧ W.cell? ⟨b, off + j * 3 + 2, none⟩ = some (Bk.c2 (V j))
theorem Bk.Row.below {n₀ : Nat} {A B : World} (h : Below n₀ A B) {sv : Value} {len : Nat} {V : Nat → Bk.E} : Bk.Row n₀ A sv len V → Bk.Row n₀ B sv len V
  | .inl e => .inl e
  | .inr ⟨b, off, cap, e, hb, hc⟩ => .inr ⟨b, off, cap, e, hb, fun j hj => ⟨(h.cell (p := ⟨b, off + j * 3, none⟩) hb).trans (hc j hj).1, (h.cell (p := ⟨b, off + j * 3 + 1, none⟩) hb).trans (hc j hj).2.1, (h.cell (p := ⟨b, off + j * 3 + 2, none⟩) hb).trans (hc j hj).2.2⟩⟩

theorem Bk.Row.grow {n₀ n₁ : Nat} (h : n₀ ≤ n₁) {A : World} {sv : Value} {len : Nat} {V : Nat → Bk.E} : Bk.Row n₀ A sv len V → Bk.Row n₁ A sv len V
  | .inl e => .inl e
  | .inr ⟨b, off, cap, e, hb, hc⟩ => .inr ⟨b, off, cap, e, Nat.lt_of_lt_of_le hb h, hc⟩

theorem Bk.stops (F : Fence) (n : Nat) (h119 : F.fn 195) (hro : F.round = none) (hn : 1 ≤ n) (Bs n₀ : Nat) (sv : Value) (len : Nat) (V : Nat → Bk.E) (hreach : len * 40 ≤ 140737488351232) (w : World) (hBs : Bs < w.heap.size) (hn₀ : n₀ ≤ w.heap.size)
    (hc : w.cell? ⟨Bs, 0, none⟩ = some sv) (hI : Bk.Row n₀ w sv len V) :
    SeqStopsK F n Tryz.prog 195 #[.pointer (some ⟨Bs, 0, none⟩)] (fun x : Nat × Bk.E => #[Value.int .i64 (x.1 : Int), Bk.enc x.2]) (Bk.Kp n₀ Bs) (fun ys => ys = Bk.upto V len len) (fun _ => True) len w := fun l J Jx W hW _ _ hY h0 => by
  have hc' := (hW.cell (p := ⟨Bs, 0, none⟩) hBs).trans hc
  rcases hI.below (hW.mono hn₀) with ⟨rfl, a, cap, rfl⟩ | ⟨b, off, cap, rfl, hb, hcs⟩
  · exact (Bk.back1_nil_in F n h119 hro l Bs a cap J W hc' h0).mono fun e W' ⟨he, hj⟩ => ⟨he, .inl ⟨_, rfl, hj⟩⟩
  · refine (Bk.back1_in F n h119 hro hn l Bs n₀ b off len cap V hreach hb J Jx hY W hc' hcs h0).mono ?_
    rintro e W' ⟨he, hj | ⟨pre, hj⟩⟩
    · exact ⟨he, .inl ⟨_, rfl, hj⟩⟩
    · exact ⟨he, .inr ⟨pre, trivial, hj⟩⟩

def Bk.R (v : Value) : Option (DataW Value × List MemPlace) := some (.held v, [])
def Bk.put (D : DataW Value) (v : Bk.E) : DataW Value := D.put (.int .i64 v.1.1) (.held (Bk.enc v))
def Bk.bookD (xs : List (Nat × Bk.E)) : DataW Value := xs.foldl (fun D x => Bk.put D x.2) (.map [])
theorem Bk.bookD_snoc (pre : List (Nat × Bk.E)) (x : Nat × Bk.E) : Bk.bookD (pre ++ [x]) = Bk.put (Bk.bookD pre) x.2 := by simp [Bk.bookD]

set_option maxRecDepth 100000 in
set_option maxHeartbeats 4000000 in
theorem Bk.book_in (F : Fence) (n : Nat) (h82 : F.fn 161) (h104 : F.fn 185) (h119 : F.fn 195) (hro : F.round = none) (hn : 3 ≤ n) (a : Option Addr) (len cap : Nat) (V : Nat → Bk.E) (hreach : len * 40 ≤ 140737488351232) (w : World)
    (hI : Bk.Row w.heap.size w (.slice a len cap) len V) :
    CallsIn F n Tryz.prog 161 #[.slice a len cap] w fun e W' => e = .returned (.map (some w.heap.size)) ∧ W'.ownsMap Tryz.prog 3 Bk.R w.heap.size len (Bk.bookD (Bk.upto V len len)) ∧ Below w.heap.size w W' := by
  have h1 : 1 ≤ n := by omega
  have hmm := @run_makeMap Tryz.prog
  refine callsIn_of_wp_marks Tryz.func161 rfl h82 ?_ hro
  simp only [Tryz.ntmps161, List.size_toArray, List.length_cons, List.length_nil, Nat.reduceAdd, Nat.reduceSub, Array.replicate_succ, Array.replicate_zero, List.push_toArray, List.append_toArray, List.nil_append, List.cons_append]
  gi_wp2_with (gi_at_call 185; refine (Bk.back_in F (n - 1) h104 hro _ _ _ _).mono ?_; rintro e w' ⟨rfl, rfl⟩)
  have hm0 := World.ownsMap_made w Tryz.prog 3 Bk.R
  have bS := (Boxed.new (w.alloc (.map #[] 0)) 205 (.map (some w.heap.size))).alloc (.cells #[.slice a len cap] 24)
  have bN := Boxed.new ((w.alloc (.map #[] 0)).alloc (.cells #[.map (some w.heap.size)] 205)) 24 (.slice a len cap)
  simp only [World.size_alloc] at bS bN
  have hB0 : Below w.heap.size w (((w.alloc (.map #[] 0)).alloc (.cells #[.map (some w.heap.size)] 205)).alloc (.cells #[.slice a len cap] 24)) := (((Below.refl _ w).alloc (Nat.le_refl _) _).alloc (by simp) _).alloc (by simp; omega) _
  refine wpIn_rangeFunc_ownH hro h1 (gf := 195) (lb := #[.pointer (some ⟨w.heap.size + 1 + 1, 0, none⟩)]) rfl h119 (enters_of Tryz.func195 (by kernel_rfl) rfl)
    (Bk.stops F (n - 1) h119 hro (by omega) (w.heap.size + 1 + 1) w.heap.size _ len V hreach _ (by simp) (by simp; omega) bN.cell (hI.below hB0))
    (fun h k => h.trans k) ?hKb (Below.refl _ _) (fun _ => rfl)
    (fun pre W => ((W.cell? ⟨w.heap.size + 1, 0, none⟩ = some (.map (some w.heap.size)) ∧ W.ownsMap Tryz.prog 3 Bk.R w.heap.size pre.length (Bk.bookD pre)) ∧ w.heap.size + 3 ≤ W.heap.size) ∧ Below w.heap.size w W)
    (fun _ _ _ => False)
    (OwnFrom.and (fun s A B row hs hg hr => ⟨⟨cell_kept hs.1.1 hg (fun r e => (hr r e).2), hs.1.2.kept hg (fun e => by have := (hr _ e.symm).1; simp at this; omega)⟩, Nat.le_trans hs.2 hg.size⟩) (ownFrom_below (Nat.le_refl _) (by simp; omega)))
    (fun _ _ _ _ _ hs _ _ => hs)
    ⟨⟨⟨bS.cell, (hm0.alloc _).alloc _⟩, by simp⟩, hB0⟩
    (fun x a' W => ∃ B, w.heap.size + 3 ≤ B ∧ W.cell? ⟨B, 0, none⟩ = some (.int .i64 x.2.1.1) ∧ W.cell? ⟨B, 1, none⟩ = some (Bk.c1 x.2) ∧ W.cell? ⟨B, 2, none⟩ = some (Bk.c2 x.2) ∧ a' = { tmps := #[.slice a len cap, undef, .map none, .pointer (some ⟨w.heap.size + 1, 0, none⟩), undef, .pointer (some ⟨B, 0, none⟩), .map (some w.heap.size), .slice a len cap, .func (.func 195) #[] #[.pointer (some ⟨w.heap.size + 1 + 1, 0, none⟩)], .int .i64 x.1, Bk.enc x.2, undef, undef, undef, undef, undef], defers := [] })
    ?hAx ?assign ?body ?done ?stop
  case hKb =>
    intro W l o o' hl ho hoc how
    refine ⟨belowK_b (w := w) (Nat.le_refl _) W l o o' (by simp at hl; omega) ho hoc how, ?_⟩
    simp only [World.size_alloc] at hl
    exact World.cell?_of_block ((grownBy_putObj' W l o').block (w.heap.size + 1 + 1) (by have := (Array.getElem?_eq_some_iff.1 ho).1; omega) (by simp; omega))
  case hAx =>
    rintro x a' _ X Y row ⟨B, h1, h2, h3, h4, h5⟩ hg hr
    exact ⟨B, h1, cell_kept h2 hg (fun r e => (hr r e).2), cell_kept h3 hg (fun r e => (hr r e).2), cell_kept h4 hg (fun r e => (hr r e).2), h5⟩
  case assign =>
    rintro l pre ⟨i, v⟩ W K ⟨⟨⟨hc, hown⟩, hsz⟩, hB⟩ hK
    simp only [Bk.enc]
    gi_wp2
    have hbel : Below W.heap.size W (W.alloc (.cells #[.int .i64 v.1.1, .int .i64 v.2.1, .slice v.2.2.1 v.2.2.2.1 v.2.2.2.2] 65)) := (Below.refl _ W).alloc (Nat.le_refl _) _
    refine hK _ _ (KeepsFrom.of_grownBy (World.grownBy_alloc W _ none) (by simp)) ⟨(Below.refl _ W).alloc hB.size _, hbel.cell (p := ⟨w.heap.size + 1 + 1, 0, none⟩) (show w.heap.size + 1 + 1 < W.heap.size by omega)⟩
      ⟨⟨⟨(hbel.cell (p := ⟨w.heap.size + 1, 0, none⟩) (show w.heap.size + 1 < W.heap.size by omega)).trans hc, hown.alloc _⟩, by simp; omega⟩, hB.alloc hB.size _⟩
      ⟨W.heap.size, hsz, ?_, ?_, ?_, rfl⟩
    · unfold World.cell?; simp only [World.alloc_heap_new W]; rfl
    · unfold World.cell?; simp only [World.alloc_heap_new W]; rfl
    · unfold World.cell?; simp only [World.alloc_heap_new W]; rfl
  case body =>
    rintro l pre x a' W hl hrec ⟨⟨⟨hc, hown⟩, hsz⟩, hB⟩ ⟨B, hB3, hb0, hb1, hb2, rfl⟩ hlt
    have hkey := Maps.keyOf_int_mk Tryz.underlying3 x.2.1.2
    simp only [Bk.c1] at hb1
    simp only [Bk.c2] at hb2
    have hml : len ≤ maxLen := by unfold maxLen; omega
    obtain ⟨w1, hrun1, hown1, hgrow1⟩ := hown.update (t := 205) (e := 65) (Maps.int_keyed Tryz.underlying3) Tryz.underlying205 (by omega) hkey (val := .agg #[.int .i64 x.2.1.1, .int .i64 x.2.2.1, .slice x.2.2.2.1 x.2.2.2.2.1 x.2.2.2.2.2]) (show Bk.R _ = some (.held (Bk.enc x.2), []) from rfl)
    gi_wp2
    have hbs : w1.cell? ⟨w.heap.size + 1 + 1, 0, none⟩ = W.cell? ⟨w.heap.size + 1 + 1, 0, none⟩ := World.cell?_of_block (hgrow1.block (w.heap.size + 1 + 1) (by omega) (by simp; omega))
    have hbc : w1.cell? ⟨w.heap.size + 1, 0, none⟩ = W.cell? ⟨w.heap.size + 1, 0, none⟩ := World.cell?_of_block (hgrow1.block (w.heap.size + 1) (by omega) (by simp))
    exact ⟨KeepsFrom.of_grownBy hgrow1 (fun j e => by cases e; simp only [World.size_alloc]; omega), ⟨(Below.refl _ W).grown hgrow1 hB.size (fun k e => by cases e; exact Nat.le_refl _), hbs⟩,
      ⟨⟨hbc.trans hc, by rw [Bk.bookD_snoc, List.length_append]; exact hown1⟩, Nat.le_trans hsz hgrow1.size⟩, hB.grown hgrow1 hB.size (fun k e => by cases e; exact Nat.le_refl _)⟩
  case done =>
    rintro D ys W hD rfl ⟨⟨⟨hc, hown⟩, hsz⟩, hB⟩ hK
    gi_wp2
    refine ⟨by simp, .inl ⟨_, _, rfl, run_takeDeferred hK, ?_⟩⟩
    rw [Bk.upto_length] at hown
    exact ⟨_, results_tmp rfl _ _ _, rfl, hown.kept (grownBy_putObj' _ D _) (fun e => by cases e; simp at hD; omega), hB.trans (belowK_b (w := w) (Nat.le_refl _) W D _ _ (by simp at hD; omega) hK rfl rfl)⟩
  case stop =>
    rintro D c pre W _ _ h _
    exact h.elim

def Bk.bookL : List Bk.E → DataW Value
  | [] => .map []
  | v :: l => Bk.put (Bk.bookL l) v
def Bk.first (s : Int) (l : List Bk.E) : Option Bk.E := l.find? fun v => decide (v.1.1 = s)

theorem Bk.bookD_upto (V : Nat → Bk.E) (len : Nat) : ∀ k, k ≤ len → Bk.bookD (Bk.upto V len k) = Bk.bookL (((List.range len).map V).drop (len - k))
  | 0, _ => by
    rw [Nat.sub_zero, List.drop_of_length_le (by simp)]; rfl
  | k + 1, h => by
    rw [Bk.upto_succ, Bk.bookD_snoc, Bk.bookD_upto V len k (by omega)]
    have hl : len - (k + 1) < ((List.range len).map V).length := by simp; omega
    have e : len - (k + 1) + 1 = len - k := by omega
    rw [List.drop_eq_getElem_cons hl, e]
    have e2 : len - 1 - k = len - (k + 1) := by omega
    simp [Bk.bookL, e2]

theorem Bk.isMap : ∀ l : List Bk.E, Maps.IsMap (Bk.bookL l)
  | [] => Maps.isMap_empty
  | v :: l => (Bk.isMap l).put _ _

theorem Bk.has_bookL (s : Int) : ∀ l : List Bk.E, Maps.has (Bk.bookL l) (.int .i64 s) = (Bk.first s l).isSome
  | [] => rfl
  | v :: l => by
    unfold Bk.bookL Bk.put Bk.first
    by_cases h : v.1.1 = s
    · rw [← h, Maps.has_put_same (k := .int .i64 v.1.1) (Bk.isMap l) trivial]
      simp
    · rw [Maps.has_put_other (fun e => h (by cases e; rfl)), Bk.has_bookL s l]
      simp [Bk.first, h]

theorem Bk.at_bookL (s : Int) (z : DataW Value) : ∀ l : List Bk.E, (Bk.bookL l).atKey (.int .i64 s) z = match Bk.first s l with | some v => .held (Bk.enc v) | none => z
  | [] => rfl
  | v :: l => by
    unfold Bk.bookL Bk.put Bk.first
    by_cases h : v.1.1 = s
    · rw [← h, Maps.atKey_put_same (k := .int .i64 v.1.1) (Bk.isMap l) trivial]
      simp
    · rw [Maps.atKey_put_other (fun e => h (by cases e; rfl)), Bk.at_bookL s z l]
      simp [Bk.first, h]

def Bk.got (s : Int) (l : List Bk.E) : Value := match Bk.first s l with
  | some v => Bk.enc v
  | none => .agg #[.int .i64 s, .int .i64 0, .slice none 0 0]

set_option maxRecDepth 100000 in
set_option maxHeartbeats 4000000 in
theorem Bk.get (a : Option Addr) (len cap : Nat) (ver s : Int) (hs : (Lit.int .i64 s).wf = true) (V : Nat → Bk.E) (hreach : len * 40 ≤ 140737488351232) (w : World) (hI : Bk.Row w.heap.size w (.slice a len cap) len V) :
    Calls Tryz.prog 131 #[.agg #[.slice a len cap, .int .i64 ver], .int .i64 s] w fun e w' => e = .returned (Bk.got s ((List.range len).map V)) ∧ Below w.heap.size w w' := by
  rw [← callsIn_wide (n := 5)]
  refine callsIn_of_wp Tryz.func131 rfl trivial ?_ rfl
  simp only [Tryz.ntmps131, List.size_toArray, List.length_cons, List.length_nil, Nat.reduceAdd, Nat.reduceSub, Array.replicate_succ, Array.replicate_zero, List.push_toArray, List.append_toArray, List.nil_append, List.cons_append]
  gi_wp2
  have hB0 : Below w.heap.size w ((w.alloc (.cells #[.slice a len cap, .int .i64 ver] 113)).alloc (.cells #[.int .i64 0, .int .i64 0, .slice none 0 0] 65)) := ((Below.refl _ w).alloc (Nat.le_refl _) _).alloc (by simp) _
  have hI2 := (hI.below hB0).grow (n₁ := ((w.alloc (.cells #[.slice a len cap, .int .i64 ver] 113)).alloc (.cells #[.int .i64 0, .int .i64 0, .slice none 0 0] 65)).heap.size) (by simp; omega)
  refine ⟨trivial, (Bk.book_in Fence.wide 4 trivial trivial trivial rfl (by omega) a len cap V hreach _ hI2).mono ?_⟩
  rintro e w1 ⟨rfl, hown, hb⟩
  have hkey := Maps.keyOf_int_mk Tryz.underlying3 hs
  obtain ⟨v, ps, hlook, hv⟩ := hown.look_ok (t := 205) (e := 65) (Maps.int_keyed Tryz.underlying3) Tryz.underlying205 (Tryz.zeroValue65 _) (zd := .held (.agg #[.int .i64 0, .int .i64 0, .slice none 0 0])) (zp := []) rfl hkey
  rw [Bk.bookD_upto V len len (Nat.le_refl _), Nat.sub_self, List.drop_zero] at hlook hv
  rw [Bk.has_bookL] at hlook
  rw [Bk.at_bookL] at hv
  have hb1 : Below w.heap.size w w1 := hB0.trans (hb.mono (by simp; omega))
  simp only [World.size_alloc] at hlook
  have h4 : w1.heap[w.heap.size + 1]? = some (.cells #[.int .i64 0, .int .i64 0, .slice none 0 0] 65 (0, 0)) := by
    refine (hb.block (w.heap.size + 1) (by simp)).trans ?_
    have := World.alloc_heap_new (w.alloc (.cells #[.slice a len cap, .int .i64 ver] 113)) (.cells #[.int .i64 0, .int .i64 0, .slice none 0 0] 65)
    rwa [World.size_alloc] at this
  have hsz : w.heap.size + 1 + 1 ≤ w1.heap.size := by have := hb.size; simpa using this
  have hlt : w.heap.size + 1 < w1.heap.size := by omega
  have g0 : w1.cell? ⟨w.heap.size + 1, 0, none⟩ = some (.int .i64 0) := by simp only [World.cell?, h4]; rfl
  have g1 : w1.cell? ⟨w.heap.size + 1, 1, none⟩ = some (.int .i64 0) := by simp only [World.cell?, h4]; rfl
  have g2 : w1.cell? ⟨w.heap.size + 1, 2, none⟩ = some (.slice none 0 0) := by simp only [World.cell?, h4]; rfl
  have f0 : w1.frozen? ⟨w.heap.size + 1, 0, none⟩ = false := by simp only [World.frozen?, h4]; rfl
  have f1 : w1.frozen? ⟨w.heap.size + 1, 1, none⟩ = false := by simp only [World.frozen?, h4]; rfl
  have f2 : w1.frozen? ⟨w.heap.size + 1, 2, none⟩ = false := by simp only [World.frozen?, h4]; rfl
  cases hf : Bk.first s ((List.range len).map V) with
  | none =>
    have hg : Bk.got s ((List.range len).map V) = .agg #[.int .i64 s, .int .i64 0, .slice none 0 0] := by unfold Bk.got; rw [hf]
    rw [hf] at hlook hv
    simp only [Bk.R, Option.some.injEq, Prod.mk.injEq, DataW.held.injEq] at hv
    obtain ⟨rfl, _⟩ := hv
    simp only [Option.isSome_none] at hlook
    dsimp only
    gi_wp2
    have hb2 : Below w.heap.size w ((((w1.setCell ⟨w.heap.size + 1, 0, none⟩ (.int .i64 s)).setCell ⟨w.heap.size + 1, 1, none⟩ (.int .i64 0)).setCell ⟨w.heap.size + 1, 2, none⟩ (.slice none 0 0)).alloc (.cells #[.int .i64 0, .int .i64 0, .slice none 0 0] 65)) :=
      (((hb1.setCell (p := ⟨w.heap.size + 1, 0, none⟩) (by simp) _).setCell (p := ⟨w.heap.size + 1, 1, none⟩) (by simp) _).setCell (p := ⟨w.heap.size + 1, 2, none⟩) (by simp) _).alloc (by simp [World.setCell] <;> omega) _
    refine bodyPost_ret (results_cell_row (fn := Tryz.f131) (p := 4) (ty := 65) rfl _ _ (w.heap.size + 1) 65 #[.int .i64 s, .int .i64 0, .slice none 0 0] (0, 0) _ rfl ?_ Tryz.underlying65 rfl (by kernel_rfl)) rfl ⟨by rw [hg], hb2⟩
    refine (Below.heap_alloc _ _ _ (by simp [World.setCell] <;> omega)).trans ?_
    simp [World.setCell, Array.getElem?_modify, h4]
  | some x =>
    have hg : Bk.got s ((List.range len).map V) = Bk.enc x := by unfold Bk.got; rw [hf]
    rw [hf] at hlook hv
    simp only [Bk.R, Option.some.injEq, Prod.mk.injEq, DataW.held.injEq, Bk.enc] at hv
    obtain ⟨rfl, _⟩ := hv
    simp only [Option.isSome_some] at hlook
    dsimp only
    gi_wp2
    have hb2 : Below w.heap.size w ((((w1.setCell ⟨w.heap.size + 1, 0, none⟩ (.int .i64 x.1.1)).setCell ⟨w.heap.size + 1, 1, none⟩ (.int .i64 x.2.1)).setCell ⟨w.heap.size + 1, 2, none⟩ (.slice x.2.2.1 x.2.2.2.1 x.2.2.2.2)).alloc (.cells #[.int .i64 x.1.1, .int .i64 x.2.1, .slice x.2.2.1 x.2.2.2.1 x.2.2.2.2] 65)) :=
      (((hb1.setCell (p := ⟨w.heap.size + 1, 0, none⟩) (by simp) _).setCell (p := ⟨w.heap.size + 1, 1, none⟩) (by simp) _).setCell (p := ⟨w.heap.size + 1, 2, none⟩) (by simp) _).alloc (by simp [World.setCell] <;> omega) _
    refine bodyPost_ret (results_cell_row (fn := Tryz.f131) (p := 4) (ty := 65) rfl _ _ (w.heap.size + 1) 65 #[.int .i64 x.1.1, .int .i64 x.2.1, .slice x.2.2.1 x.2.2.2.1 x.2.2.2.2] (0, 0) _ rfl ?_ Tryz.underlying65 rfl (by kernel_rfl)) rfl ⟨by rw [hg]; rfl, hb2⟩
    refine (Below.heap_alloc _ _ _ (by simp [World.setCell] <;> omega)).trans ?_
    simp [World.setCell, Array.getElem?_modify, h4]

end Go.Proofs

/- shard.Get's contract over deep values. -/
set_option linter.unusedVariables false
set_option linter.unusedSimpArgs false
namespace Go.Vm
open Go Go.RowKit Go.Proofs

def wf64 (n : Int) : Bool := (Lit.int .i64 n).wf

def sGetA (l : List Acc) (n : Int) : Acc := match l.find? (fun a => decide (a.sender = n)) with
  | some a => a
  | none => ⟨n, 0, []⟩

def F_ka8 (s : Shard) (n : Int) : Option Acc :=
  if wf64 n = true ∧ s.accounts.all (fun a => wf64 a.sender) = true ∧ s.accounts.length * 40 ≤ 140737488351232 then some (sGetA s.accounts n) else none

def M_ka8 : List DA → Option (List RV) := con2 (eT ceShard) eInt (fun x0 x1 => (F_ka8 x0 x1).map (res1 (rAgg ceAcc)).enc)

theorem en_ka8 : Enters Tryz.prog 131 := ⟨_, Tryz.func131, rfl, rfl⟩

theorem acc_cells {Φ : Fz} {a : Acc} {vs : List Value} (h : All2 (Den Φ) a.c vs) : ∃ p l c, vs = [.int .i64 a.sender, .int .i64 a.base, .slice p l c] := by
  obtain ⟨v0, vs1, rfl, h0, h1⟩ := h.cons_left
  obtain ⟨v1, vs2, rfl, h1', h2⟩ := h1.cons_left
  obtain ⟨v2, vs3, rfl, h2', h3⟩ := h2.cons_left
  obtain rfl := h3.nil_left
  cases h0
  cases h1'
  have hs : ∃ p l c, v2 = .slice p l c := by
    generalize a.txs.map Tx.c = xs at h2'
    cases h2' with
    | nil a c => exact ⟨_, _, _, rfl⟩
    | sl => exact ⟨_, _, _, rfl⟩
  obtain ⟨p, l, c, rfl⟩ := hs
  exact ⟨p, l, c, rfl⟩

theorem got_ok {Φ : Fz} {n : Int} : ∀ {lst : List Bk.E} {accs : List Acc}, All2 (fun (e : Bk.E) (a : Acc) => e.1.1 = a.sender ∧ ∃ vs : List Value, Bk.enc e = .agg vs.toArray ∧ All2 (Den Φ) a.c vs) lst accs →
    ∃ vs : List Value, Bk.got n lst = .agg vs.toArray ∧ All2 (Den Φ) (sGetA accs n).c vs
  | [], accs, h => by
    obtain rfl := h.nil_left
    exact ⟨[.int .i64 n, .int .i64 0, .slice none 0 0], rfl, All2.cons (.sc _ rfl) (All2.cons (.sc _ rfl) (All2.cons (.nil none 0) All2.nil))⟩
  | e :: lst, accs, h => by
    obtain ⟨a, accs', rfl, ⟨he, hv⟩, ht⟩ := h.cons_left
    by_cases hn : e.1.1 = n
    · have hn2 : a.sender = n := by rw [← he]; exact hn
      obtain ⟨vs, h1, h2⟩ := hv
      refine ⟨vs, ?_, ?_⟩
      · rw [← h1]; simp [Bk.got, Bk.first, hn]
      · simp only [sGetA]
        rw [List.find?_cons_of_pos (by simpa using hn2)]
        exact h2
    · have hn2 : ¬ a.sender = n := by rw [← he]; exact hn
      obtain ⟨vs, h1, h2⟩ := got_ok ht
      have hf : Bk.first n (e :: lst) = Bk.first n lst := by unfold Bk.first; rw [List.find?_cons_of_neg (by simpa using hn)]
      refine ⟨vs, ?_, ?_⟩
      · rw [← h1]; unfold Bk.got; rw [hf]
      · simp only [sGetA] at h2 ⊢
        rw [List.find?_cons_of_neg (by simpa using hn2)]
        exact h2

theorem ex_listB {α : Type} (Pr : Nat → α → Prop) : ∀ (n : Nat), (∀ i, i < n → ∃ x, Pr i x) → ∃ xs : List α, xs.length = n ∧ ∀ i x, xs[i]? = some x → Pr i x
  | 0, _ => ⟨[], rfl, fun i x h => by simp at h⟩
  | n + 1, h => by
    obtain ⟨xs, hl, hx⟩ := ex_listB Pr n fun i hi => h i (by omega)
    obtain ⟨x, hxn⟩ := h n (by omega)
    refine ⟨xs ++ [x], by simp [hl], fun i y hy => ?_⟩
    by_cases hi : i < n
    · rw [List.getElem?_append_left (by omega)] at hy; exact hx i y hy
    · rw [List.getElem?_append_right (by omega)] at hy
      have : i = n := by
        have := (List.getElem?_eq_some_iff.1 hy).1
        simp at this; omega
      subst this
      simp [hl] at hy; subst hy; exact hxn

def E0 : Bk.E := ⟨⟨0, by decide⟩, 0, none, 0, 0⟩

theorem cc_ka8 : CallC Tryz.prog 131 M_ka8 := by
  intro Φ w das args rs hsat ha hF
  obtain ⟨s, n, rfl, hF2⟩ := con2_spec hF
  obtain ⟨r, hr, rfl⟩ := Option.map_eq_some_iff.1 hF2
  unfold F_ka8 at hr
  split at hr
  case isFalse => cases hr
  case isTrue hc =>
  obtain ⟨hn, hall, hlen⟩ := hc
  injection hr with hr
  subst hr
  obtain ⟨v0, vs, rfl, h0, hrest⟩ := ha.cons_left
  obtain ⟨v1, vs', rfl, h1, hrest2⟩ := hrest.cons_left
  obtain rfl := hrest2.nil_left
  obtain ⟨cells, rfl, hcells⟩ := h0
  have hcells' : All2 (Den Φ) [.sl (s.accounts.map Acc.c), .sc (.int .i64 s.version)] cells := hcells
  obtain ⟨c0, cs1, rfl, hc0, hcs⟩ := hcells'.cons_left
  obtain ⟨c1, cs2, rfl, hc1, hcs2⟩ := hcs.cons_left
  obtain rfl := hcs2.nil_left
  have h1' : Den Φ (.sc (.int .i64 n)) v1 := h1
  cases h1'
  cases hc1
  have fin : ∀ (a : Option Addr) (cap : Nat) (lst : List Bk.E), c0 = .slice a s.accounts.length cap → lst.length = s.accounts.length → Bk.Row w.heap.size w c0 s.accounts.length (fun j => (lst[j]?).getD E0) →
      All2 (fun (e : Bk.E) (a : Acc) => e.1.1 = a.sender ∧ ∃ vs : List Value, Bk.enc e = .agg vs.toArray ∧ All2 (Den Φ) a.c vs) lst s.accounts →
      Calls Tryz.prog 131 [.agg [c0, .int .i64 s.version].toArray, .int .i64 n].toArray w (fun e w' => ∃ v Φ', e = .returned v ∧ Below w.heap.size w w' ∧ Le Φ Φ' ∧ New Φ Φ' w.heap.size ∧ Sat Φ' w' ∧ RVsR Φ' w' w.heap.size ((res1 (rAgg ceAcc)).enc (sGetA s.accounts n)) v) := by
    intro a cap lst hc0' hll hrow h2
    rw [hc0'] at hrow ⊢
    refine (Bk.get a s.accounts.length cap s.version n hn _ hlen w hrow).mono fun e w' ⟨he, hb⟩ => ?_
    have hmap : (List.range s.accounts.length).map (fun j => (lst[j]?).getD E0) = lst := by
      apply List.ext_getElem
      · simp [hll]
      · intro i h1 h2; simp [h2]
    rw [hmap] at he
    obtain ⟨vs, hv1, hv2⟩ := got_ok (n := n) h2
    refine ⟨_, Φ, he, hb, Le.refl _, New.refl _ _, hsat.below hb, [_], rfl, All2.cons ⟨vs, hv1, hv2⟩ All2.nil, ?_⟩
    intro i j b r s' u v hij hi hr
    have hi' := (List.getElem?_eq_some_iff.1 hi).1
    simp only [res1, List.length_singleton] at hi'
    obtain rfl : i = 0 := by omega
    simp only [res1, List.getElem?_cons_zero, Option.some.injEq] at hi
    subst hi
    cases hr
  cases hacc : s.accounts with
  | nil =>
    rw [hacc] at hc0 fin
    cases hc0 with
    | nil a c => exact fin a c [] rfl rfl (.inl ⟨rfl, a, c, rfl⟩) All2.nil
    | sl _ _ _ _ _ _ hne => exact absurd rfl hne
  | cons a0 l0 =>
    have hne : s.accounts ≠ [] := by rw [hacc]; simp
    rw [← hacc]
    generalize hxs : s.accounts.map Acc.c = xs at hc0
    cases hc0 with
    | nil a c => exact absurd (List.map_eq_nil_iff.1 hxs) hne
    | sl _ k b o c vs hne' hk hk0 hcap hcell hden =>
      have hxl : xs.length = s.accounts.length := by rw [← hxs]; simp
      have hk3 : k = 3 := by
        have h0 : 0 < s.accounts.length := List.length_pos_iff.2 hne
        have := hk (s.accounts[0].c) (by rw [← hxs]; exact List.mem_map.2 ⟨_, List.getElem_mem h0, rfl⟩)
        rw [← this]; rfl
      subst hk3
      have key : ∀ j, j < s.accounts.length → ∃ e : Bk.E, (∃ a, s.accounts[j]? = some a ∧ e.1.1 = a.sender ∧ Bk.enc e = .agg [vs j 0, vs j 1, vs j 2].toArray ∧ All2 (Den Φ) a.c [vs j 0, vs j 1, vs j 2]) := by
        intro j hj
        have ha' : s.accounts[j]? = some (s.accounts[j]) := List.getElem?_eq_getElem hj
        have hx : xs[j]? = some (s.accounts[j]).c := by rw [← hxs, List.getElem?_map, ha']; rfl
        have h2 : All2 (Den Φ) (s.accounts[j]).c [vs j 0, vs j 1, vs j 2] :=
          All2.cons (hden j 0 _ _ hx rfl) (All2.cons (hden j 1 _ _ hx rfl) (All2.cons (hden j 2 _ _ hx rfl) All2.nil))
        obtain ⟨p, l, c, hv⟩ := acc_cells h2
        have hw : wf64 (s.accounts[j]).sender = true := List.all_eq_true.1 hall _ (List.getElem_mem hj)
        refine ⟨⟨⟨(s.accounts[j]).sender, hw⟩, (s.accounts[j]).base, p, l, c⟩, _, ha', rfl, ?_, h2⟩
        rw [hv]; rfl
      obtain ⟨lst, hll, hlst⟩ := ex_listB _ _ key
      refine fin (some ⟨b, o, none⟩) c lst (by rw [hxl]) hll (.inr ⟨b, o, c, by rw [hxl], ?_, ?_⟩) ⟨hll, fun i e a he ha => ?_⟩
      · have := hcell 0 0 (by rw [hxl]; exact List.length_pos_iff.2 hne) (by omega)
        exact hsat.lt this
      · intro j hj
        have he : lst[j]? = some (lst[j]'(by omega)) := List.getElem?_eq_getElem (by omega)
        obtain ⟨a, _, _, henc, _⟩ := hlst j _ he
        simp only [he, Option.getD_some]
        simp only [Bk.enc, Value.agg.injEq] at henc
        have e1 := congrArg (fun x : Array Value => x.toList) henc
        simp only [List.cons.injEq, and_true] at e1
        have c0 := hsat _ _ _ (hcell j 0 (by omega) (by omega))
        have c1 := hsat _ _ _ (hcell j 1 (by omega) (by omega))
        have c2 := hsat _ _ _ (hcell j 2 (by omega) (by omega))
        refine ⟨?_, ?_, ?_⟩
        · rw [e1.1]; exact c0
        · unfold Bk.c1; rw [e1.2.1]; exact c1
        · unfold Bk.c2; rw [e1.2.2]; exact c2
      · obtain ⟨a', ha', h1, h2, h3⟩ := hlst i e he
        rw [ha'] at ha; injection ha with ha; subst ha
        exact ⟨h1, _, h2, h3⟩

end Go.Vm
