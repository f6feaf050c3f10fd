/- Stores; what others keep. -/
import Derived.Test.YtaidpcnnggknnaaGreatVa
import Derived.Laws.IdiomStrings
import Derived.Lib.AppendStr
import Derived.Lib.UnsafeStr
import Derived.Carry
import Derived.MapKept

set_option linter.unusedVariables false
set_option linter.unusedSimpArgs false
namespace Go.Vm
open Go Go.RowKit

section
variable {P : Program} {Φ : Fz} {θ : Th} {base : Nat} {objs objs' : Objs} {env : Env} {a : Act} {w : World} {C : Cfg} {v : TV}

structure Frz (objs objs' : Objs) (cs : List CV) : Prop where
  own : ∀ c ∈ cs, ∀ id, refId c = some id → ∀ e k xs, objs[id]? = some (Ob.arr e k xs) → objs'[id]? = some (Ob.frz e k xs)
  old : ∀ (i : Nat) (ob : Ob), objs[i]? = some ob → (∀ e k xs, ob ≠ Ob.arr e k xs) → objs'[i]? = some ob
  arr : ∀ (i e k : Nat) (xs : List (List DV)), objs[i]? = some (Ob.arr e k xs) → objs'[i]? = some (Ob.arr e k xs) ∨ objs'[i]? = some (Ob.frz e k xs)

theorem frzs_ok : ∀ (cs : List CV) {Φ : Fz} {objs : Objs}, StR Φ θ base w env objs a.tmps → ∃ Φ', Le Φ Φ' ∧ New Φ Φ' base ∧ Go2 θ θ objs (frzs objs cs) ∧ StR Φ' θ base w env (frzs objs cs) a.tmps ∧ Frz objs (frzs objs cs) cs
  | [], Φ, objs, hs => ⟨Φ, Le.refl _, New.refl _ _, Go2.refl _ _, hs, ⟨fun c hc => by simp at hc, fun i ob h _ => h, fun i e k xs h => .inl h⟩⟩
  | c :: cs, Φ, objs, hs => by
    obtain ⟨Φ1, hle1, hn1, hg1, hs1, ho1, hd1, ha1⟩ := frz1_ok hs c
    obtain ⟨Φ2, hle2, hn2, hg2, hs2, hf⟩ := frzs_ok cs hs1
    have he : frzs objs (c :: cs) = frzs (frz1 objs c) cs := rfl
    rw [he]
    refine ⟨Φ2, hle1.trans hle2, fun b o hb => (hn2 b o hb).trans (hn1 b o hb), hg1.trans hg2, hs2, ⟨?_, ?_, ?_⟩⟩
    · intro c' hc' id hcn e k xs ho
      rcases List.mem_cons.1 hc' with rfl | hm
      · exact hf.old id _ (ho1 id hcn e k xs ho) (by intro _ _ _ h; cases h)
      · rcases ha1 id e k xs ho with h | h
        · exact hf.own c' hm id hcn e k xs h
        · exact hf.old id _ h (by intro _ _ _ h; cases h)
    · intro i ob hi hne
      exact hf.old i ob (hd1 i ob hi hne) hne
    · intro i e k xs hi
      rcases ha1 i e k xs hi with h | h
      · exact hf.arr i e k xs h
      · exact .inr (hf.old i _ h (by intro _ _ _ h; cases h))

theorem toDV_ok {Φ' : Fz} {objs' : Objs} (hs : StR Φ' θ base w env objs' a.tmps) {cs : List CV} (hf : Frz objs objs' cs) (hle : Le Φ Φ') {c : CV} (hc : c ∈ cs) {u : Value} (hr : CR Φ θ objs c u) {x : DV} (h : toDV objs c = some x) : Den Φ' x u := by
  unfold toDV at h
  split at h
  · injection h with h; subst h; exact Den.mono hle hr
  · injection h with h; subst h
    have hu : u = .slice none 0 0 := hr
    rw [hu]; exact .nil _ _
  · rename_i id n
    split at h
    · rename_i e k xs ho
      split at h
      · rename_i hl
        injection h with h; subst h
        have hv := own_val hr (Lr_of ho) hl.symm
        have := hs.ob id _ (hf.own _ hc id rfl e k xs ho)
        rw [hv]; exact this.1
      · cases h
    · rename_i e k xs ho
      split at h
      · rename_i hl
        injection h with h; subst h
        have hv := own_val hr (Lr_of ho) hl.symm
        have := hs.ob id _ (hf.old id _ ho (by intro _ _ _ h; cases h))
        rw [hv]; exact this.1
      · cases h
    · cases h
  · rename_i id n lo hi k0
    have fin : ∀ (e k : Nat) (xs : List (List DV)), len1 ((objs[id]?).getD .nil) = some xs.length → objs[id]? ≠ none → objs'[id]? = some (.frz e k xs) → xs.length = n ∧ k = k0 ∧ lo ≤ hi ∧ hi ≤ n → Den Φ' (.sl ((xs.take hi).drop lo)) u := by
      intro e k xs hln hne hob hl
      obtain ⟨hxn, rfl, hlo, hhi⟩ := hl
      obtain ⟨_, _, ad, c, hv, hc, _, hr⟩ := hr
      rw [hv]
      by_cases hlt : lo < hi
      · obtain ⟨b, hb, hrr⟩ := hr hlt
        have hLr : Lr objs id = some (some xs.length) := by
          unfold Lr
          cases ho : objs[id]? with
          | none => exact absurd ho hne
          | some ob => rw [ho] at hln; simpa using hln
        obtain ⟨s, hs', hrr⟩ := hrr
        rw [hLr] at hs'; injection hs' with hs'
        obtain ⟨c0, hc0⟩ := (hrr xs.length hs'.symm).2 hxn.symm
        have hd := hs.ob id _ hob
        have := den_cut (c := c + lo) (hc0 ▸ hd.1) lo hi hlo (by omega) (by omega) (size := k) hd.2.1
        rw [if_neg (by omega)] at this
        simp only [Option.map_some, addr_plus, Nat.zero_add, Nat.add_sub_cancel] at this
        rw [hb]; exact this
      · have : (xs.take hi).drop lo = [] := List.drop_eq_nil_of_le (by rw [List.length_take]; omega)
        rw [this, show hi - lo = 0 by omega]
        exact .nil _ _
    split at h
    · rename_i e k xs ho
      split at h
      · rename_i hl
        injection h with h; subst h
        exact fin _ _ xs (by rw [ho]; rfl) (by rw [ho]; simp) (hf.own _ hc id rfl _ _ xs ho) hl
      · cases h
    · rename_i e k xs ho
      split at h
      · rename_i hl
        injection h with h; subst h
        exact fin _ _ xs (by rw [ho]; rfl) (by rw [ho]; simp) (hf.old id _ ho (by intro _ _ _ h; cases h)) hl
      · cases h
    · cases h
  · cases h

theorem toDVs_ok {Φ' : Fz} {objs' : Objs} (hs : StR Φ' θ base w env objs' a.tmps) {cs : List CV} (hf : Frz objs objs' cs) (hle : Le Φ Φ') : ∀ (l : List CV) (us : List Value) (ds : List DV), (∀ c ∈ l, c ∈ cs) → All2 (CR Φ θ objs) l us → toDVs objs l = some ds → All2 (Den Φ') ds us
  | [], us, ds, _, hr, h => by
    have := hr.nil_left; subst this
    simp [toDVs] at h; subst h; exact All2.nil
  | c :: l, us, ds, hm, hr, h => by
    obtain ⟨u, us', rfl, h1, h2⟩ := hr.cons_left
    unfold toDVs at h
    split at h
    case h_2 => cases h
    case h_1 x xs hx hxs =>
    injection h with h; subst h
    exact All2.cons (toDV_ok hs hf hle (hm c (by simp)) h1 hx) (toDVs_ok hs hf hle l us' xs (fun c hc => hm c (by simp [hc])) h2 hxs)

theorem toDVs_len : ∀ {l : List CV} {ds : List DV}, toDVs objs l = some ds → ds.length = l.length
  | [], ds, h => by simp [toDVs] at h; subst h; rfl
  | c :: l, ds, h => by
    unfold toDVs at h
    split at h
    case h_2 => cases h
    case h_1 x xs hx hxs =>
    injection h with h; subst h
    simp [toDVs_len hxs]

theorem take_more {α : Type} (z l : List α) (m : Nat) : (z ++ l).take (z.length + m) = z ++ l.take m := by rw [List.take_append, List.take_of_length_le (by omega), Nat.add_sub_cancel_left]
theorem drop_more {α : Type} (z l : List α) (m : Nat) : (z ++ l).drop (z.length + m) = l.drop m := by rw [List.drop_append, List.drop_eq_nil_of_le (by omega), Nat.add_sub_cancel_left]; rfl

theorem flat_parts {α : Type} {k : Nat} : ∀ {xs : List (List α)}, (∀ x ∈ xs, x.length = k) → ∀ {j : Nat} {x : List α}, xs[j]? = some x → ∀ x' : List α,
    (xs.set j x').flatten = xs.flatten.take (j * k) ++ x' ++ xs.flatten.drop (j * k + k) ∧ xs.flatten = xs.flatten.take (j * k) ++ x ++ xs.flatten.drop (j * k + k)
  | [], _, j, x, h, x' => by simp at h
  | z :: xs, hk, 0, x, h, x' => by
    simp at h; subst h
    have := hk z (by simp)
    simp [← this]
  | z :: xs, hk, j + 1, x, h, x' => by
    obtain ⟨h1, h2⟩ := flat_parts (xs := xs) (fun x hx => hk x (by simp [hx])) (j := j) (x := x) (by simpa using h) x'
    have hz := hk z (by simp)
    have e1 : (j + 1) * k = z.length + j * k := by rw [hz, Nat.succ_mul]; omega
    have e2 : (j + 1) * k + k = z.length + (j * k + k) := by omega
    refine ⟨?_, ?_⟩
    · rw [List.set_cons_succ, List.flatten_cons, List.flatten_cons, e2, e1, h1, take_more, drop_more]
      simp
    · rw [List.flatten_cons, e2, e1, take_more, drop_more]
      simp only [List.append_assoc] at h2 ⊢
      rw [← h2]

theorem flat_set {k : Nat} {xs : List (List DV)} (hk : ∀ x ∈ xs, x.length = k) {j : Nat} {x : List DV} (hx : xs[j]? = some x) {r : Nat} {ds : List DV} (hr : r + ds.length ≤ k) :
    (xs.set j (setRangeD x r ds)).flatten = xs.flatten.take (j * k + r) ++ ds ++ xs.flatten.drop (j * k + r + ds.length) := by
  obtain ⟨h1, h2⟩ := flat_parts hk hx (setRangeD x r ds)
  have hxl : x.length = k := hk x (List.mem_of_getElem? hx)
  have hA : (xs.flatten.take (j * k)).length = j * k := by
    have hlt := (List.getElem?_eq_some_iff.1 hx).1
    rw [List.length_take, flat_len hk, Nat.min_eq_left (Nat.mul_le_mul_right _ (by omega))]
  rw [h1]
  generalize xs.flatten.take (j * k) = A at *
  generalize xs.flatten.drop (j * k + k) = B at *
  rw [h2]
  unfold setRangeD
  have t1 : (A ++ x ++ B).take (j * k + r) = A ++ x.take r := by
    rw [List.append_assoc, List.take_append, List.take_of_length_le (by omega), hA, Nat.add_sub_cancel_left, List.take_append, show r - x.length = 0 by omega]
    simp
  have t2 : (A ++ x ++ B).drop (j * k + r + ds.length) = x.drop (r + ds.length) ++ B := by
    rw [List.append_assoc, List.drop_append, List.drop_eq_nil_of_le (by omega), hA, show j * k + r + ds.length - j * k = r + ds.length by omega, List.drop_append, show r + ds.length - x.length = 0 by omega]
    simp
  rw [t1, t2]
  simp

theorem heap_setRow {b : Nat} {cells cells' : Array Value} {t : Nat} (h : w.heap[b]? = some (.cells cells t (0, 0))) : (w.setRow b cells').heap[b]? = some (.cells cells' t (0, 0)) := setRow_heap w b cells cells' t (0, 0) h

theorem below_setRow {b : Nat} (cells' : Array Value) (hb : base ≤ b) : Below base w (w.setRow b cells') :=
  ⟨rfl, rfl, rfl, by simp, fun i hi => setRow_other w b i cells' (by omega)⟩

theorem sat_setRow {b : Nat} (hs : Sat Φ w) (hn : ∀ o, Φ b o = none) (cells' : Array Value) : Sat Φ (w.setRow b cells') := by
  intro b' o u hu
  have hne : b' ≠ b := fun e => by subst e; rw [hn] at hu; cases hu
  have := hs b' o u hu
  rw [← this]
  exact World.cell?_of_block (w := w) (setRow_other w b b' cells' hne)

theorem run_store_at {t : Nat} {ti : TI} (hT : TyOk P t ti) {b off : Nat} {cells : Array Value} {e : Nat} {u : Value} (hh : w.heap[b]? = some (.cells cells e (0, 0))) (hsz : u.cells.size = ti.size) (hfit : off + u.cells.size ≤ cells.size) (h1 : ∀ v ∈ u.cells.toList, v.oneCell' = true) :
    (storeVar t ⟨b, off, none⟩ u).run P w = .ok () (w.setRow b (cells.toList.take off ++ u.cells.toList ++ cells.toList.drop (off + u.cells.size)).toArray) := by
  have := run_storeCells_at P b off e u.cells.toList 0 cells w hh (by simpa using hfit) h1
  unfold storeVar
  simp only [Sem.run_bind, hT.size w, Result.andThen_ok]
  rw [if_neg (by simp [hsz])]
  simpa using this

theorem all2_one {cs : List CV} {us : List Value} (h : All2 (CR Φ θ objs) cs us) : ∀ v ∈ us, v.oneCell' = true := by
  intro v hv
  obtain ⟨i, hi, rfl⟩ := List.getElem_of_mem hv
  have hi' : i < cs.length := by rw [h.1]; exact hi
  exact CR.one (h.2 i _ _ (List.getElem?_eq_getElem hi') (List.getElem?_eq_getElem hi))

theorem own_setRow {e k n : Nat} {u : Value} {vs : List Value} (h : w.ownsRow base e k u n vs) {b : Nat} (hb : pblk u = some b) {off : Nat} {news : List Value} (hfit : off + news.length ≤ n * k) :
    ∃ cells, w.heap[b]? = some (.cells cells e (0, 0)) ∧ off + news.length ≤ cells.size ∧
      (w.setRow b (cells.toList.take off ++ news ++ cells.toList.drop (off + news.length)).toArray).ownsRow base e k u n (vs.take off ++ news ++ vs.drop (off + news.length)) := by
  rcases h.2 with ⟨rfl, _⟩ | ⟨g, cap, cur, rfl, hb0, hg, hnc, hcm, hcs, htake⟩
  · cases hb
  · have : g = b := by simpa [pblk] using hb
    subst this
    have hle : n * k ≤ cur.size := by rw [hcs]; exact Nat.mul_le_mul_right _ hnc
    have hvl : vs.length = n * k := h.1
    refine ⟨cur, hg, by omega, ?_, .inr ⟨g, cap, _, rfl, hb0, heap_setRow hg, hnc, hcm, ?_, ?_⟩⟩
    · simp; omega
    · simp; omega
    · have hlen : cur.toList.length = cur.size := by simp
      rw [← htake]
      simp only [List.take_append, List.length_append, List.length_take, hlen, List.take_take, List.drop_take]
      rw [show min off cur.size = off by omega, show min (n * k) off = off by omega, show min off (n * k) = off by omega]
      rw [List.take_of_length_le (l := news) (by omega)]

theorem evStore_ok (hC : CfgOk P C) {o : Oper} {t : Nat} {p x : Operand} (ho : o.op = .store t p x) (hs : StR Φ θ base w env objs a.tmps) (h : evStore (C.ti t) (rd1 env p) (rd env x) objs = some (v, objs')) :
    OpR P o a w (Post Φ θ base w env objs a.tmps v objs') := by
  unfold evStore at h
  split at h
  case h_2 => cases h
  case h_1 ti c u hti hp hx =>
  split at h
  case h_2 => cases h
  case h_1 cs hcs =>
  split at h
  case isFalse => cases h
  case isTrue hlen =>
  split at h
  case h_2 => cases h
  case h_1 objs1 hst =>
  simp at h
  obtain ⟨rfl, rfl⟩ := h
  have hcu := cellsOf_ok hcs (rd_ok hs.env hx)
  have hpr := rd1_ok hs.env hp
  have hT := hC.ty _ _ hti
  have hsz : (a.eval x).cells.size = ti.size := by have := hcu.1; simp at this; omega
  have hone := all2_one hcu
  have undef_ok : ∀ (Φ' : Fz) (objs' : Objs), TVR Φ' θ objs' (.tup []) undef := fun _ _ => ⟨[], rfl, All2.nil⟩
  unfold storeC at hst
  split at hst
  case h_2 => cases hst
  case h_1 id n off =>
  split at hst
  case h_3 => cases hst
  case h_1 tb old hob =>
    split at hst
    case isFalse => cases hst
    case isTrue hle =>
    injection hst with hst; subst hst
    obtain ⟨b, arr, hθ, hge, hh, hcells, hno⟩ := hs.ob id _ hob
    have hn0 : n = 0 := by
      obtain ⟨_, _, s, hs', hr⟩ := hpr
      rw [Lr_of hob] at hs'; injection hs' with hs'
      have := (hr 0 hs'.symm).1; omega
    obtain ⟨b', hb', hv⟩ := ptr_val hpr (m := 0) (Lr_of hob) hn0
    rw [hθ] at hb'
    have : b = b' := by simpa [pblk] using hb'
    subst this
    have hal : arr.size = old.length := by have := hcells.1; simp at this; omega
    have hcl : cs.length = (a.eval x).cells.toList.length := hcu.1
    have hrun := run_store_at (P := P) hT (u := a.eval x) (off := off) hh hsz (by simp at hcl; omega) hone
    have hgo : Go2 θ θ objs (objs.set id (.box tb (setRange old off cs))) := by
      have := go_set (θ := θ) (v := θ id) (ob := .box tb (setRange old off cs)) hob (fun m' hm' => ⟨m', hm', Nat.le_refl _, fun _ => rfl⟩)
      rwa [thAt_self] at this
    refine .skip (w' := w.setRow b (arr.toList.take off ++ (a.eval x).cells.toList ++ arr.toList.drop (off + (a.eval x).cells.size)).toArray) ?_ ⟨Φ, θ, ⟨Le.refl _, hgo, New.refl _ _, below_setRow _ hge⟩, ?_, undef_ok _ _⟩
    · unfold execOp
      simp [ho, hv, Instr.storeAt, Instr.sureAddr, hrun]
    · have hch := hs.change (w' := w.setRow b (arr.toList.take off ++ (a.eval x).cells.toList ++ arr.toList.drop (off + (a.eval x).cells.size)).toArray) (ob := .box tb (setRange old off cs)) (θ id) hob (by rw [thAt_self]; exact hgo)
        ⟨b, _, by rw [thAt_self]; exact hθ, hge, heap_setRow hh, by
          rw [thAt_self]
          have h1 : All2 (CR Φ θ objs) (setRange old off cs) (arr.toList.take off ++ (a.eval x).cells.toList ++ arr.toList.drop (off + (a.eval x).cells.size)) := by
            unfold setRange
            rw [hcl]
            simpa using ((hcells.take off).append hcu).append (hcells.drop _)
          exact h1.imp fun _ _ => CR.go (Le.refl _) hgo, hno⟩
        (sat_setRow hs.sat hno _)
        (fun i b' hi hm => by
          have hne : b' ≠ b := fun e => by
            subst e
            exact hi (hs.apart i id b' hm (by unfold mblk; rw [hob, hθ]; rfl))
          exact ⟨setRow_other w b b' _ hne, by rw [hθ]; simp [pblk]; exact fun e => hne e.symm⟩) (by simpa using hs.base)
      rwa [thAt_self] at hch
  case h_2 e0 k0 xs0 hob0 =>
    split at hst
    case h_2 => cases hst
    case h_1 e k xs ds hob hds =>
    split at hst
    case isFalse => cases hst
    case isTrue hnk =>
    split at hst
    case h_2 => cases hst
    case h_1 row hrow =>
    split at hst
    case isFalse => cases hst
    case isTrue hfit =>
    injection hst with hst; subst hst
    obtain ⟨Φ1, hle1, hn1, hg1, hs1, hf1⟩ := frzs_ok cs hs
    have hpr1 : CR Φ1 θ (frzs objs cs) (.ptr id n off) (a.eval p) := CR.go hle1 hg1 hpr
    obtain ⟨b, hb, hv⟩ := ptr_val hpr1 (Lr_of hob) hnk.1.symm
    obtain ⟨vs, hown, hden, hall, hk0, hno⟩ := hs1.ob id _ hob
    have hdd := toDVs_ok hs1 hf1 hle1 cs _ ds (fun _ h => h) hcu hds
    have hdl : ds.length = (a.eval x).cells.toList.length := hdd.1
    have hrk : row.length = k := hall row (List.mem_of_getElem? hrow)
    have hjl := (List.getElem?_eq_some_iff.1 hrow).1
    have hoff : off / k * k + off % k = off := by rw [Nat.mul_comm]; exact Nat.div_add_mod off k
    have hfit2 : off + ds.length ≤ xs.length * k := by
      have : (off / k + 1) * k ≤ xs.length * k := Nat.mul_le_mul_right _ hjl
      rw [Nat.succ_mul] at this
      omega
    obtain ⟨cells, hh, hcfit, hown'⟩ := own_setRow (off := off) (news := (a.eval x).cells.toList) hown hb (by rw [← hdl]; exact hfit2)
    have hge := (own_ge hown hb).1
    have hrun := run_store_at (P := P) hT (u := a.eval x) (off := off) hh hsz (by simpa using hcfit) hone
    have hgo : Go2 θ θ (frzs objs cs) ((frzs objs cs).set id (.arr e k (xs.set (off / k) (setRangeD row (off % k) ds)))) := by
      have := go_set (θ := θ) (v := θ id) (ob := .arr e k (xs.set (off / k) (setRangeD row (off % k) ds))) hob (fun m' hm' => ⟨m', by simpa [len1] using hm', Nat.le_refl _, fun _ => rfl⟩)
      rwa [thAt_self] at this
    have hw' : (a.eval x).cells.size = (a.eval x).cells.toList.length := by simp
    refine .skip (w' := w.setRow b (cells.toList.take off ++ (a.eval x).cells.toList ++ cells.toList.drop (off + (a.eval x).cells.size)).toArray) ?_
      ⟨Φ1, θ, ⟨hle1, hg1.trans hgo, hn1, below_setRow _ hge⟩, ?_, undef_ok _ _⟩
    · unfold execOp
      simp [ho, hv, Instr.storeAt, Instr.sureAddr, hrun]
    · have hch := hs1.change (w' := w.setRow b (cells.toList.take off ++ (a.eval x).cells.toList ++ cells.toList.drop (off + (a.eval x).cells.size)).toArray) (ob := .arr e k (xs.set (off / k) (setRangeD row (off % k) ds))) (θ id) hob (by rw [thAt_self]; exact hgo)
        ⟨vs.take off ++ (a.eval x).cells.toList ++ vs.drop (off + (a.eval x).cells.toList.length), by rw [thAt_self, List.length_set, hw']; exact hown', by
          rw [flat_set hall hrow (by omega), hoff, ← hdl]
          exact ((hden.take off).append hdd).append (hden.drop _), fun y hy => by
            rcases List.mem_or_eq_of_mem_set hy with h | h
            · exact hall y h
            · subst h; unfold setRangeD; simp; omega, hk0, fun b' hb' o => by rw [thAt_self] at hb'; exact hno b' hb' o⟩
        (sat_setRow hs1.sat (hno b hb) _)
        (fun i b' hi hm => by
          have hne : b' ≠ b := fun e => by
            subst e
            exact hi (hs1.apart i id b' hm (by unfold mblk; rw [hob]; exact hb))
          exact ⟨setRow_other w b b' _ hne, fun e => hne (by rw [hb] at e; injection e with e; exact e.symm)⟩) (by simpa using hs1.base)
      rwa [thAt_self] at hch

end
end Go.Vm

/- Slices that are made: literals, make, append; texts and bytes. -/
set_option linter.unusedVariables false
set_option linter.unusedSimpArgs false
namespace Go.Vm
open Go Go.RowKit

section
variable {P : Program} {Φ : Fz} {θ : Th} {base : Nat} {objs objs' : Objs} {env : Env} {a : Act} {w : World} {C : Cfg} {v : TV}

theorem frz1_is (objs : Objs) (c : CV) : frz1 objs c = frzs objs [c] := rfl

theorem arr_nil_post (hs : StR Φ θ base w env objs a.tmps) (e k : Nat) (hk : 0 < k) : Post Φ θ base w env objs a.tmps (.v (.one (.own objs.length 0))) (objs ++ [.arr e k []]) (.slice none 0 0) w := by
  have hg := go_push θ objs (.arr e k []) (.slice none 0 0)
  refine ⟨Φ, _, ⟨Le.refl _, hg, New.refl _ _, Below.refl _ _⟩, hs.push _ _ ⟨[], ?_, by simpa using All2.nil, by simp, hk, fun b hb => ?_⟩ (fun i b _ h => by cases h), ⟨⟨none, 0, rfl, fun h => absurd h (by omega), by omega⟩, some 0, Lr_push rfl, fun m hm => ⟨by omega, fun _ => (thAt_same _ _ _).symm⟩⟩⟩
  · rw [thAt_same]; exact World.ownsRow_nil w base e k
  · rw [thAt_same] at hb; cases hb

theorem arr_new_post (hs : StR Φ θ base w env objs a.tmps) (e k n cap : Nat) (hk : 0 < k) (cells : Array Value) (xs : List (List DV)) (hn : xs.length = n) (hall : ∀ x ∈ xs, x.length = k) (hcap : n ≤ cap) (hmax : cap ≤ maxLen) (hsz : cells.size = cap * k)
    (hd : All2 (Den Φ) xs.flatten (cells.toList.take (n * k))) :
    Post Φ θ base w env objs a.tmps (.v (.one (.own objs.length n))) (objs ++ [.arr e k xs]) (.slice (some ⟨w.heap.size, 0, none⟩) n cap) (w.alloc (.cells cells e)) := by
  subst hn
  have hg := go_push θ objs (.arr e k xs) (.slice (some ⟨w.heap.size, 0, none⟩) xs.length cap)
  have h1 := alloc_state hs cells e
  refine ⟨Φ, _, ⟨Le.refl _, hg, New.refl _ _, (Below.refl _ _).alloc hs.base _⟩, h1.push _ _ ⟨cells.toList.take (xs.length * k), ?_, hd, hall, hk, fun b hb o => ?_⟩ (fun i b hb hp => fresh_blk hs hb (by simpa [pblk] using hp.symm)),
    ⟨⟨_, cap, rfl, fun _ => ⟨_, rfl⟩, hcap⟩, some xs.length, Lr_push rfl, fun m hm => ⟨by injection hm with hm; omega, fun _ => (thAt_same _ _ _).symm⟩⟩⟩
  · rw [thAt_same]
    refine ⟨by
      have hle : xs.length * k ≤ cap * k := Nat.mul_le_mul_right _ hcap
      have hl2 : cells.toList.length = cap * k := by rw [← hsz]; exact Array.length_toList
      rw [List.length_take, hl2]; omega, .inr ⟨_, cap, cells, rfl, hs.base, Go.heap_alloc_new w _, hcap, hmax, hsz, rfl⟩⟩
  · rw [thAt_same] at hb
    have : w.heap.size = b := by simpa [pblk] using hb
    subst this; exact sat_none hs.sat o

theorem madeCells_flat (z : List Value) (hz : 0 < z.length) : ∀ n, (madeCells z.toArray (n * z.length)).toList = (List.replicate n z).flatten := by
  intro n
  apply List.ext_getElem?
  intro i
  by_cases hi : i < n * z.length
  · have h1 : i / z.length < n := by rw [Nat.div_lt_iff_lt_mul hz]; exact hi
    have h2 : i % z.length < z.length := Nat.mod_lt _ hz
    have hr : (List.replicate n z)[i / z.length]? = some z := by simp [h1]
    have := flat_get (xs := List.replicate n z) (k := z.length) (fun x hx => by rw [(List.mem_replicate.1 hx).2]) hr (List.getElem?_eq_getElem h2)
    rw [show i / z.length * z.length + i % z.length = i by rw [Nat.mul_comm]; exact Nat.div_add_mod i z.length] at this
    rw [this]
    simp [madeCells, hi, h2]
  · have h1 : (madeCells z.toArray (n * z.length)).toList.length ≤ i := by simp [madeCells]; omega
    rw [List.getElem?_eq_none h1, List.getElem?_eq_none]
    rw [flat_len (k := z.length) (fun x hx => by rw [(List.mem_replicate.1 hx).2])]
    simp; omega

theorem replicate_flat {α β : Type} {R : α → β → Prop} {x : List α} {y : List β} (h : All2 R x y) : ∀ n, All2 R (List.replicate n x).flatten (List.replicate n y).flatten
  | 0 => All2.nil
  | n + 1 => by rw [List.replicate_succ, List.replicate_succ, List.flatten_cons, List.flatten_cons]; exact h.append (replicate_flat h n)

theorem evMake_ok (hC : CfgOk P C) {o : Oper} {t : Nat} {l c : Operand} (ho : o.op = .makeSlice t l c) (hs : StR Φ θ base w env objs a.tmps) (h : evMake C t (rdI env l) (rdI env c) objs = some (v, objs')) :
    OpR P o a w (Post Φ θ base w env objs a.tmps v objs') := by
  unfold evMake at h
  split at h
  case h_2 => cases h
  case h_1 ti n m hti hl hm =>
  split at h
  case h_2 => cases h
  case h_1 e hkind =>
  split at h
  case h_2 => cases h
  case h_1 te hte =>
  split at h
  case isFalse => cases h
  case isTrue hcond =>
  obtain ⟨rfl, h0, hb, hsz, hzl, hn⟩ := hcond
  simp at h
  obtain ⟨rfl, rfl⟩ := h
  obtain ⟨d, hd, _, hk⟩ := (hC.ty _ _ hti).desc
  rw [hkind] at hk
  have hk : d = .slice e := hk
  subst hk
  obtain ⟨i, z, hi, hsi, hby, hz, hz0, hzc, _⟩ := (hC.ty _ _ hte).info
  obtain ⟨k1, hlv⟩ := rdI_ok hs.env hl
  obtain ⟨k2, hmv⟩ := rdI_ok hs.env hm
  have hrun := run_make (P := P) w t e i z hd hi hz k1 k2 n n h0 (Int.le_refl _) (by rw [hby, Int.mul_comm]; omega) (by omega)
  have hmc : (madeCells z.cells (n.toNat * i.size)).toList = (List.replicate n.toNat z.cells.toList).flatten := by
    have := madeCells_flat z.cells.toList (by simp; omega) n.toNat
    simp only [Array.toArray_toList, Array.length_toList] at this
    rw [hsi, ← hzc]; exact this
  refine .value (cv := .slice (some ⟨w.heap.size, 0, none⟩) n.toNat n.toNat) (w' := w.alloc (.cells (madeCells z.cells (n.toNat * i.size)) e)) ?_
    (arr_new_post hs e te.size n.toNat n.toNat hsz _ _ (by simp) (fun x hx => by rw [(List.mem_replicate.1 hx).2]; exact hzl) (Nat.le_refl _) (by simp only [maxLen]; omega) (by rw [size_madeCells, hsi]) ?_)
  · unfold execOp
    simp [ho, hlv, hmv, hrun]
  · rw [hmc, List.take_of_length_le (by rw [flat_len (k := te.size) (fun x hx => by rw [(List.mem_replicate.1 hx).2]; simpa using hzc)]; simp)]
    exact replicate_flat (hz0 Φ) n.toNat

theorem den_flat {xs : List (List DV)} {u : Value} (h : Den Φ (.sl xs) u) (hne : xs ≠ []) (hsat : Sat Φ w) {k : Nat} (hk : ∀ x ∈ xs, x.length = k) :
    ∃ b o c news, u = .slice (some ⟨b, o, none⟩) xs.length c ∧ All2 (Den Φ) xs.flatten news ∧ At w b o news ∧ news.length = xs.length * k ∧ ∀ b', (∀ o, Φ b' o = none) → b' ≠ b := by
  cases h with
  | nil => exact absurd rfl hne
  | sl _ k' b o c vs _ hk' hk0 hc hcell hden =>
    have hkk : k = k' := by
      cases xs with
      | nil => exact absurd rfl hne
      | cons x xs => rw [← hk x (by simp), hk' x (by simp)]
    subst hkk
    have hdm : ∀ i, i < xs.length * k → i / k < xs.length ∧ i % k < k ∧ i / k * k + i % k = i := fun i hi =>
      ⟨by rw [Nat.div_lt_iff_lt_mul hk0]; exact hi, Nat.mod_lt _ hk0, by rw [Nat.mul_comm]; exact Nat.div_add_mod i k⟩
    refine ⟨b, o, c, (List.range (xs.length * k)).map (fun i => vs (i / k) (i % k)), rfl, ⟨by rw [flat_len hk]; simp, fun i y v hy hv => ?_⟩, fun i v hv => ?_, by simp, fun b' hb' e => ?_⟩
    · have hi : i < xs.length * k := by have := (List.getElem?_eq_some_iff.1 hy).1; rwa [flat_len hk] at this
      obtain ⟨h1, h2, h3⟩ := hdm i hi
      have hx := List.getElem?_eq_getElem h1
      have hxl : (xs[i / k]).length = k := hk _ (List.getElem_mem h1)
      have hyy : (xs[i / k])[i % k]? = some y := by
        have hj := List.getElem?_eq_getElem (show i % k < (xs[i / k]).length by omega)
        have := flat_get hk hx hj
        rw [h3, hy] at this
        rw [hj]; exact this.symm
      have := hden _ _ _ _ hx hyy
      simp [hi] at hv; subst hv; exact this
    · have hi : i < xs.length * k := by have := (List.getElem?_eq_some_iff.1 hv).1; simpa using this
      obtain ⟨h1, h2, h3⟩ := hdm i hi
      have := hcell _ _ h1 h2
      rw [h3] at this
      simp [hi] at hv; subst hv
      exact hsat _ _ _ this
    · subst e
      have h1 : 0 < xs.length := List.length_pos_iff.2 hne
      have := hcell 0 0 h1 hk0
      rw [hb'] at this; cases this

theorem run_append_nothing {t e : Nat} {i : TypeInfo} (ht : P.underlying t = some (.slice e)) (hi : P.info? e = some i) (ad : Option Addr) (n c : Nat) (hnc : n ≤ c) (ad' : Option Addr) (c' : Nat) :
    ∀ ty, (Builtin.append_ #[t, t] ty #[.slice ad n c, .slice ad' 0 c']).run P w = .ok (.slice ad n c) w := by
  intro ty
  cases ad <;> cases ad' <;> simp [Builtin.append_, run_underlying ht, sizeOf, typeInfo, hi, Builtin.lenOf, hnc, Builtin.firstCells, loadCells, loadCellsFrom, storeCells]

theorem evAppend_ok (hC : CfgOk P C) {o : Oper} {c : Call} {s x : Operand} {t u : Nat} (ho : o.op = .call c) (hcb : c.callee = .builtin .append) (hca : c.args.toList = [s, x]) (hct : c.argTypes.toList = [t, u]) (hs : StR Φ θ base w env objs a.tmps)
    (h : evAppend C t u (rd1 env s) (rd1 env x) objs = some (v, objs')) : OpR P o a w (Post Φ θ base w env objs a.tmps v objs') := by
  have hrun : execOp a.eval o = _ := run_builtin ho hcb
  unfold evAppend at h
  split at h
  case h_2 => cases h
  case h_1 ti id n cx hti hsv hxv =>
  split at h
  case h_2 => cases h
  case h_1 e hkind =>
  split at h
  case h_2 => cases h
  case h_1 te e' k xs ys hte hob hdv =>
  split at h
  case isFalse => cases h
  case isTrue hcond =>
  obtain ⟨rfl, hxn, rfl, rfl, hroom, hby0, hyk⟩ := hcond
  obtain ⟨d, hd, _, hk⟩ := (hC.ty _ _ hti).desc
  rw [hkind] at hk
  have hk : d = .slice e' := hk
  subst hk
  obtain ⟨i, z, hi, hsi, hby, hz, hz0, hzc, _⟩ := (hC.ty _ _ hte).info
  obtain ⟨Φ1, hle1, hn1, hg1, hs1, hf1⟩ := frzs_ok [cx] hs
  rw [← frz1_is] at hg1 hs1 hf1
  have hden := toDV_ok hs1 hf1 hle1 (by simp) (rd1_ok hs.env hxv) hdv
  have hsr := CR.go hle1 hg1 (rd1_ok hs.env hsv)
  have hθ := own_val hsr (Lr_of hob) hxn.symm
  obtain ⟨vs, hown, hdx, hall, hk0, hno⟩ := hs1.ob id _ hob
  have hyall : ∀ y ∈ ys, y.length = te.size := fun y hy => by simpa using List.all_eq_true.1 hyk y hy
  split at h
  case isTrue hy0 =>
    simp at h
    obtain ⟨rfl, rfl⟩ := h
    obtain ⟨ad', c', hxf, _⟩ := den_sl_form hden
    have hsf : ∃ ad cc, a.eval s = .slice ad xs.length cc ∧ xs.length ≤ cc := by
      rw [hθ]
      rcases hown.2 with ⟨h1, h2⟩ | ⟨g, cap, cur, h1, _, _, h3, _⟩
      · exact ⟨none, 0, by rw [h1, h2], by omega⟩
      · exact ⟨_, cap, h1, h3⟩
    obtain ⟨ad, cc, hsf, hcc⟩ := hsf
    refine .value (cv := a.eval s) (w' := w) ?_ ⟨Φ1, θ, ⟨hle1, hg1, hn1, Below.refl _ _⟩, hs1, hsr⟩
    rw [hrun, arr2 hca, arr2 hct]
    have := run_append_nothing (w := w) hd hi ad xs.length cc hcc ad' c' o.type
    rw [hy0] at hxf
    simp [builtin, hsf, hxf, this]
  case isFalse hy0 =>
    simp at h
    obtain ⟨rfl, rfl⟩ := h
    have hne : ys ≠ [] := fun e => hy0 (by simp [e])
    obtain ⟨b, off, c', news, hxf, hdn, hat, hnl, hbne⟩ := den_flat hden hne hs1.sat hyall
    have hone : ∀ u ∈ news, u.oneCell' = true := fun u hu => by
      obtain ⟨j, hj, rfl⟩ := List.getElem_of_mem hu
      have hj' : j < ys.flatten.length := by rw [hdn.1]; exact hj
      exact Den.one (hdn.2 j _ _ (List.getElem?_eq_getElem hj') (List.getElem?_eq_getElem hj))
    have hmax : xs.length + ys.length ≤ maxLen := by
      simp only [maxLen]
      have := Nat.le_trans (Nat.le_mul_of_pos_right (xs.length + ys.length) hby0) hroom
      omega
    obtain ⟨v', w', hr, hown', hgrow, _, hat'⟩ := run_append_own_at (P := P) w base t o.type e' i z te.size te.bytes hd hi hz hsi hby hzc hk0 (θ id) xs.length vs hown
      ⟨b, off, none⟩ ys.length c' news hnl (fun j u hu => by rw [addr_add]; exact hat j u hu) hone hmax hroom hs1.base
    have hvb := own_pblk hown
    have hvb' := own_pblk hown'
    have hgrowB : Below base w w' := (Below.refl base w).grown hgrow hs1.base (fun k hk => by
      have := hown.lt k hk; omega)
    have hgo : Go2 θ (thAt θ id v') (frz1 objs cx) ((frz1 objs cx).set id (.arr e' te.size (xs ++ ys))) :=
      go_set hob (fun m' hm' => ⟨xs.length, rfl, by simp [len1] at hm'; omega, fun e => by simp [len1] at hm'; omega⟩)
    have hlen : (xs ++ ys).length = xs.length + ys.length := by simp
    have hno' : ∀ b, pblk v' = some b → ∀ o, Φ1 b o = none := by
      intro b hb o
      rcases hat' with h | h
      · rw [hvb', h, ← hvb] at hb; exact hno b hb o
      · rw [hvb', h] at hb; injection hb with hb; subst hb; exact sat_none hs1.sat o
    have hkeepB : ∀ b, b < w.heap.size → (∀ b', pblk (θ id) = some b' → b ≠ b') → w'.heap[b]? = w.heap[b]? := fun b hb hne' =>
      hgrow.block b hb (fun e => by rw [← hvb] at e; exact hne' b e.symm rfl)
    have hst := hs1.change (w' := w') (ob := .arr e' te.size (xs ++ ys)) v' hob hgo
      ⟨vs ++ news, by rw [thAt_same, hlen]; exact hown', by
        rw [List.flatten_append]; exact hdx.append hdn, fun y hy => by
          rcases List.mem_append.1 hy with h | h
          · exact hall y h
          · exact hyall y h, hk0, fun b hb o => by rw [thAt_same] at hb; exact hno' b hb o⟩
      (fun b o u hu => by
        have hb := hs1.sat.lt hu
        have := hkeepB b hb (fun b' hb' e => by subst e; rw [hno b hb'] at hu; cases hu)
        exact (World.cell?_of_block (w := w) (a := ⟨b, o, none⟩) this).trans (hs1.sat b o u hu))
      (fun j b hj hm => by
        have hb := hs1.mblk_ge hm
        have hne' : ∀ b', pblk (θ id) = some b' → b ≠ b' := fun b' hb' e => by
          subst e
          exact hj (hs1.apart j id b hm (by unfold mblk; rw [hob]; exact hb'))
        refine ⟨hkeepB b hb.2 hne', fun e => ?_⟩
        rcases hat' with h | h
        · rw [hvb', h, ← hvb] at e; exact hne' b e rfl
        · rw [hvb', h] at e; injection e with e; omega)
      (Nat.le_trans hs1.base hgrow.size)
    refine .value (cv := v') (w' := w') ?_ ⟨Φ1, thAt θ id v', ⟨hle1, hg1.trans hgo, hn1, hgrowB⟩, hst, ?_⟩
    · rw [hrun, arr2 hca, arr2 hct]
      simp [builtin, hθ, hxf, hr]
    · refine ⟨?_, some (xs.length + ys.length), ?_, fun m hm => ⟨by injection hm with hm; omega, fun _ => (thAt_same _ _ _).symm⟩⟩
      · have h0 : 0 < xs.length + ys.length := by have := List.length_pos_iff.2 hne; omega
        rcases hown'.2 with ⟨_, h1⟩ | ⟨g, cap, cur, hv', _, _, hnc', _⟩
        · omega
        · exact ⟨_, cap, hv', fun _ => ⟨g, rfl⟩, by omega⟩
      · rw [← hlen]
        exact Lr_of (by rw [List.getElem?_set_self (List.getElem?_eq_some_iff.1 hob).1])

theorem flat_take {α : Type} {k : Nat} : ∀ {xs : List (List α)}, (∀ x ∈ xs, x.length = k) → ∀ {n : Nat}, (xs.take n).flatten = xs.flatten.take (n * k)
  | [], _, n => by simp
  | x :: xs, h, 0 => by simp
  | x :: xs, h, n + 1 => by
    have hx := h x (by simp)
    rw [List.take_succ_cons, List.flatten_cons, List.flatten_cons, flat_take (xs := xs) (fun y hy => h y (by simp [hy])), show (n + 1) * k = x.length + n * k by rw [hx, Nat.succ_mul]; omega, take_more]
theorem flat_drop' {α : Type} {k : Nat} : ∀ {xs : List (List α)}, (∀ x ∈ xs, x.length = k) → ∀ {n : Nat}, (xs.drop n).flatten = xs.flatten.drop (n * k)
  | [], _, n => by simp
  | x :: xs, h, 0 => by simp
  | x :: xs, h, n + 1 => by
    have hx := h x (by simp)
    rw [List.drop_succ_cons, List.flatten_cons, flat_drop' (xs := xs) (fun y hy => h y (by simp [hy])), show (n + 1) * k = x.length + n * k by rw [hx, Nat.succ_mul]; omega, drop_more]

theorem zeroCells_flat (z : List Value) (hz : 0 < z.length) (n : Nat) : (Builtin.zeroCells z.toArray n).toList = (List.replicate n z).flatten := by
  have := madeCells_flat z hz n
  rw [← this]
  simp [Builtin.zeroCells, madeCells]

theorem own_write (hs : StR Φ θ base w env objs a.tmps) {id e k : Nat} {xs xs' : List (List DV)} (hob : objs[id]? = some (.arr e k xs)) {b : Nat} (hb : pblk (θ id) = some b) {off : Nat} {news : List Value} {ds : List DV} (hdd : All2 (Den Φ) ds news)
    (hfit : off + news.length ≤ xs.length * k) (hlen : xs'.length = xs.length) (hall' : ∀ x ∈ xs', x.length = k) (hfl : xs'.flatten = xs.flatten.take off ++ ds ++ xs.flatten.drop (off + ds.length)) :
    ∃ cells, w.heap[b]? = some (.cells cells e (0, 0)) ∧ off + news.length ≤ cells.size ∧
      Goes Φ θ base w objs Φ θ (w.setRow b (cells.toList.take off ++ news ++ cells.toList.drop (off + news.length)).toArray) (objs.set id (.arr e k xs')) ∧
      StR Φ θ base (w.setRow b (cells.toList.take off ++ news ++ cells.toList.drop (off + news.length)).toArray) env (objs.set id (.arr e k xs')) a.tmps := by
  obtain ⟨vs, hown, hden, hall, hk0, hno⟩ := hs.ob id _ hob
  obtain ⟨cells, hh, hcfit, hown'⟩ := own_setRow (off := off) (news := news) hown hb hfit
  have hge := (own_ge hown hb).1
  have hdl : ds.length = news.length := hdd.1
  have hgo : Go2 θ θ objs (objs.set id (.arr e k xs')) := by
    have := go_set (θ := θ) (v := θ id) (ob := .arr e k xs') hob (fun m' hm' => ⟨m', by simp only [len1] at hm' ⊢; rw [← hlen]; exact hm', Nat.le_refl _, fun _ => rfl⟩)
    rwa [thAt_self] at this
  refine ⟨cells, hh, hcfit, ⟨Le.refl _, hgo, New.refl _ _, below_setRow _ hge⟩, ?_⟩
  have hch := hs.change (w' := w.setRow b (cells.toList.take off ++ news ++ cells.toList.drop (off + news.length)).toArray) (ob := .arr e k xs') (θ id) hob (by rw [thAt_self]; exact hgo)
    ⟨vs.take off ++ news ++ vs.drop (off + news.length), by rw [thAt_self, hlen]; exact hown', by
      rw [hfl, hdl]
      exact ((hden.take off).append hdd).append (hden.drop _), hall', hk0, fun b' hb' o => by rw [thAt_self] at hb'; exact hno b' hb' o⟩
    (sat_setRow hs.sat (hno b hb) _)
    (fun i b' hi hm => by
      have hne : b' ≠ b := fun e => by
        subst e
        exact hi (hs.apart i id b' hm (by unfold mblk; rw [hob]; exact hb))
      exact ⟨setRow_other w b b' _ hne, fun e => hne (by rw [hb] at e; injection e with e; exact e.symm)⟩) (by simpa using hs.base)
  rwa [thAt_self] at hch

theorem evClear_ok (hC : CfgOk P C) {o : Oper} {c : Call} {x : Operand} {t : Nat} (ho : o.op = .call c) (hcb : c.callee = .builtin .clear) (hca : c.args.toList = [x]) (hct : c.argTypes.toList = [t]) (hs : StR Φ θ base w env objs a.tmps)
    (h : evClear C t (rd1 env x) objs = some (v, objs')) : OpR P o a w (Post Φ θ base w env objs a.tmps v objs') := by
  have hrun : execOp a.eval o = _ := run_builtin ho hcb
  unfold evClear at h
  split at h
  case h_2 => cases h
  case h_1 ti id n lo hi k2 hti hx =>
  obtain ⟨d, hd, _, hk⟩ := (hC.ty _ _ hti).desc
  split at h
  case h_2 => cases h
  case h_1 e hkind =>
  rw [hkind] at hk
  have hk : d = .slice e := hk
  subst hk
  split at h
  case h_2 => cases h
  case h_1 te e' k' xs hte hob =>
  split at h
  case isFalse => cases h
  case isTrue hcond =>
  obtain ⟨rfl, rfl, rfl, hxn, hlo, hhi, hzl, hz0⟩ := hcond
  simp only [Option.some.injEq, Prod.mk.injEq] at h
  obtain ⟨rfl, rfl⟩ := h
  obtain ⟨i, z, hi2, hsi, hby, hz, hzd, hzc, _⟩ := (hC.ty _ _ hte).info
  obtain ⟨_, _, ad, cc, hv, hcc, _, hr⟩ := rd1_ok hs.env hx
  obtain ⟨vs, hown, hden, hall, hk0, hno⟩ := hs.ob id _ hob
  by_cases hlt : lo < hi
  · obtain ⟨b, rfl, s, hs', hrr⟩ := hr hlt
    rw [Lr_of hob] at hs'; injection hs' with hs'
    obtain ⟨c0, hc0⟩ := (hrr _ hs'.symm).2 hxn.symm
    have hb : pblk (θ id) = some b := by rw [hc0]; rfl
    have hzz : z.cells.toList.length = te.size := by simpa using hzc
    have hfl : (Builtin.zeroCells z.cells (hi - lo)).toList = (List.replicate (hi - lo) z.cells.toList).flatten := by
      have := zeroCells_flat z.cells.toList (by omega) (hi - lo)
      simpa using this
    have hdd : All2 (Den Φ) (List.replicate (hi - lo) te.zero).flatten (Builtin.zeroCells z.cells (hi - lo)).toList := by rw [hfl]; exact replicate_flat (hzd Φ) _
    have hrl : (List.replicate (hi - lo) te.zero).flatten.length = (hi - lo) * te.size := by
      rw [flat_len (k := te.size) (fun x hx => by rw [(List.mem_replicate.1 hx).2]; exact hzl)]; simp
    have hnl : (Builtin.zeroCells z.cells (hi - lo)).toList.length = (hi - lo) * te.size := by rw [← hdd.1]; exact hrl
    have hfit : lo * te.size + (Builtin.zeroCells z.cells (hi - lo)).toList.length ≤ xs.length * te.size := by
      rw [hnl, ← Nat.add_mul]; exact Nat.mul_le_mul_right _ (by omega)
    obtain ⟨cells, hh, hcfit, hg, hst⟩ := own_write hs hob hb (off := lo * te.size) (xs' := xs.take lo ++ List.replicate (hi - lo) te.zero ++ xs.drop hi) hdd hfit (by simp; omega)
      (fun y hy => by
        rcases List.mem_append.1 hy with hy | hy
        · rcases List.mem_append.1 hy with hy | hy
          · exact hall y (List.mem_of_mem_take hy)
          · rw [(List.mem_replicate.1 hy).2]; exact hzl
        · exact hall y (List.mem_of_mem_drop hy))
      (by
        rw [List.flatten_append, List.flatten_append, hrl, ← Nat.add_mul, show lo + (hi - lo) = hi by omega, flat_take hall, flat_drop' hall])
    have hone : ∀ v ∈ (Builtin.zeroCells z.cells (hi - lo)).toList, v.oneCell' = true := fun v hv => by
      obtain ⟨j, hj, rfl⟩ := List.getElem_of_mem hv
      exact Den.one (hdd.2 j _ _ (List.getElem?_eq_getElem (by rw [hdd.1]; exact hj)) (List.getElem?_eq_getElem hj))
    have hsc := run_storeCells_at P b (lo * te.size) e' (Builtin.zeroCells z.cells (hi - lo)).toList 0 cells w hh (by simpa using hcfit) hone
    simp only [Nat.add_zero] at hsc
    refine .value (cv := .tuple #[]) ?_ ⟨Φ, θ, hg, hst, ⟨[], rfl, All2.nil⟩⟩
    rw [hrun, arr2 hca, arr2 hct]
    have hne : hi - lo ≠ 0 := by omega
    cases hm : hi - lo with
    | zero => omega
    | succ m =>
      rw [hm] at hv hsc
      simp [builtin, Builtin.clear_, hv, run_underlying hd, zeroValue, typeInfo, hi2, hz, hsc]
  · have he : lo = hi := by omega
    subst he
    have hnew : xs.take lo ++ List.replicate (lo - lo) te.zero ++ xs.drop lo = xs := by simp
    rw [hnew, set_self hob]
    refine .value (cv := .tuple #[]) (w' := w) ?_ ⟨Φ, θ, Goes.refl _ _ _ _ _, hs, ⟨[], rfl, All2.nil⟩⟩
    rw [hrun, arr2 hca, arr2 hct]
    rw [Nat.sub_self] at hv
    cases ad <;> simp [builtin, Builtin.clear_, hv, run_underlying hd]

end
end Go.Vm

/- Slice literals; texts and bytes; calls by contract. -/
set_option linter.unusedVariables false
set_option linter.unusedSimpArgs false
namespace Go.Vm
open Go Go.RowKit

def DAR (Φ : Fz) : DA → Value → Prop
  | .one x, v => Den Φ x v
  | .agg cs, v => ∃ vs : List Value, v = .agg vs.toArray ∧ All2 (Den Φ) cs vs

def RVR (Φ : Fz) (w : World) (base : Nat) : RV → Value → Prop
  | .one x, v => Den Φ x v
  | .agg cs, v => ∃ vs : List Value, v = .agg vs.toArray ∧ All2 (Den Φ) cs vs
  | .own e k xs, v => ∃ vs : List Value, w.ownsRow base e k v xs.length vs ∧ All2 (Den Φ) xs.flatten vs ∧ (∀ x ∈ xs, x.length = k) ∧ 0 < k ∧ (∀ b, pblk v = some b → ∀ o, Φ b o = none)

def packU : List Value → Value
  | [x] => x
  | vs => .tuple vs.toArray

def OwnApart (rs : List RV) (vs : List Value) : Prop := ∀ (i j b : Nat) r s u v, i ≠ j → rs[i]? = some r → r.isOwn = true → rs[j]? = some s → s.isOwn = true → vs[i]? = some u → vs[j]? = some v → pblk u = some b → pblk v ≠ some b

def RVsR (Φ : Fz) (w : World) (base : Nat) (rs : List RV) (v : Value) : Prop := ∃ vs : List Value, v = packU vs ∧ All2 (RVR Φ w base) rs vs ∧ OwnApart rs vs

def CallC (P : Program) (f : Nat) (F : List DA → Option (List RV)) : Prop :=
  ∀ (Φ : Fz) (w : World) (das : List DA) (args : List Value) (rs : List RV), Sat Φ w → All2 (DAR Φ) das args → F das = some rs →
    Calls P f args.toArray w (fun e w' => ∃ v Φ', e = .returned v ∧ Below w.heap.size w w' ∧ Le Φ Φ' ∧ New Φ Φ' w.heap.size ∧ Sat Φ' w' ∧ RVsR Φ' w' w.heap.size rs v)

def Enters (P : Program) (f : Nat) : Prop := ∃ fn, P.funcs[f]? = some fn ∧ fn.body.isNone = false ∧ (fn.name == "runtime.NumGoroutine") = false

def InlC (P : Program) (f : Nat) (F : List V1 → Objs → Option (TV × Objs)) : Prop :=
  ∀ (Φ : Fz) (θ : Th) (base : Nat) (w : World) (objs : Objs) (vs : List V1) (args : List Value) (v : TV) (objs' : Objs), StR Φ θ base w [] objs #[] → All2 (V1R Φ θ objs) vs args → F vs objs = some (v, objs') →
    Calls P f args.toArray w (fun e w' => ∃ u Φ' θ', e = .returned u ∧ Goes Φ θ base w objs Φ' θ' w' objs' ∧ StR Φ' θ' base w' [] objs' #[] ∧ TVR Φ' θ' objs' v u)

structure CallsOk (P : Program) (C : Cfg) : Prop where
  entersI : ∀ f, C.inls.contains f = true → Enters P f
  inl : ∀ f, C.inls.contains f = true → InlC P f (C.inl f)
  enters : ∀ f, C.calls.contains f = true → Enters P f
  call : ∀ f, C.calls.contains f = true → CallC P f (C.call f)

section
variable {P : Program} {Φ : Fz} {θ : Th} {base : Nat} {objs objs' : Objs} {env : Env} {a : Act} {w : World} {C : Cfg} {v : TV}

theorem fill_seq (size : Nat) : ∀ (vals : List (Nat × Value)) (i0 : Nat) (cells : Array Value), vals.map (·.1) = List.range' i0 vals.length → (∀ p ∈ vals, p.2.cells.size = size) → (i0 + vals.length) * size ≤ cells.size →
    ∃ out, Instr.fill (fun i => some (i * size, size)) cells vals = some out ∧ out.toList = cells.toList.take (i0 * size) ++ (vals.map (·.2.cells.toList)).flatten ++ cells.toList.drop ((i0 + vals.length) * size)
  | [], i0, cells, _, _, _ => ⟨cells, rfl, by simp⟩
  | (i, u) :: vals, i0, cells, hi, hs, hle => by
    simp only [List.map_cons, List.length_cons, List.range'_succ, List.cons.injEq] at hi
    obtain ⟨rfl, hi⟩ := hi
    have hu : u.cells.size = size := hs (i, u) (by simp)
    simp only [List.length_cons] at hle
    have e1 : (i + (vals.length + 1)) * size = (i + 1 + vals.length) * size := by congr 1; omega
    have hmul : i * size + size ≤ cells.size := by
      have : (i + 1) * size ≤ (i + (vals.length + 1)) * size := Nat.mul_le_mul_right _ (by omega)
      rw [Nat.succ_mul] at this; omega
    have hset := foldl_set u.cells.toList 0 (i * size) cells (by simp; omega)
    simp only [Array.toArray_toList, Nat.add_zero, Array.length_toList] at hset
    have hz : (u.cells.zipIdx.foldl (fun cs (c, j) => cs.setIfInBounds (i * size + j) c) cells).toList = cells.toList.take (i * size) ++ u.cells.toList ++ cells.toList.drop (i * size + u.cells.size) := hset
    obtain ⟨cells', hdef⟩ : ∃ c, u.cells.zipIdx.foldl (fun cs (c, j) => cs.setIfInBounds (i * size + j) c) cells = c := ⟨_, rfl⟩
    rw [hdef] at hz
    have hsz' : cells'.size = cells.size := by
      have := congrArg List.length hz
      simp at this; omega
    obtain ⟨out, ho, hr⟩ := fill_seq size vals (i + 1) cells' hi (fun p hp => hs p (by simp [hp])) (by rw [hsz', ← e1]; exact hle)
    refine ⟨out, ?_, ?_⟩
    · unfold Instr.fill
      simp only
      rw [if_neg (by simp [hu]; omega), hdef]
      exact ho
    · simp only [List.length_cons]
      rw [hr, hz, hu, e1]
      have l1 : (cells.toList.take (i * size)).length = i * size := by simp; omega
      have l2 : u.cells.toList.length = size := by simpa using hu
      have t1 : (cells.toList.take (i * size) ++ u.cells.toList ++ cells.toList.drop (i * size + size)).take ((i + 1) * size) = cells.toList.take (i * size) ++ u.cells.toList := by
        rw [show (i + 1) * size = (cells.toList.take (i * size) ++ u.cells.toList).length + 0 by rw [List.length_append, l1, l2, Nat.succ_mul]; rfl, take_more]; simp
      have t2 : (cells.toList.take (i * size) ++ u.cells.toList ++ cells.toList.drop (i * size + size)).drop ((i + 1 + vals.length) * size) = cells.toList.drop ((i + 1 + vals.length) * size) := by
        rw [show (i + 1 + vals.length) * size = (cells.toList.take (i * size) ++ u.cells.toList).length + vals.length * size by rw [List.length_append, l1, l2, Nat.add_mul, Nat.succ_mul], drop_more, List.drop_drop]
        congr 1
        rw [List.length_append, l1, l2]
      rw [t1, t2]
      simp

theorem rdCs_ok (he : All2 (TVR Φ θ objs) env a.tmps.toList) : ∀ (ps : List (Nat × Operand)) (css : List (List CV)), rdCs env ps = some css →
    All2 (fun (cs : List CV) (p : Nat × Operand) => All2 (CR Φ θ objs) cs (a.eval p.2).cells.toList) css ps
  | [], css, h => by simp [rdCs] at h; subst h; exact All2.nil
  | p :: ps, css, h => by
    unfold rdCs at h
    split at h
    case h_2 => cases h
    case h_1 v vs hv hvs =>
    split at h
    case h_2 => cases h
    case h_1 cs hcs =>
    injection h with h; subst h
    exact All2.cons (cellsOf_ok hcs (rd_ok he hv)) (rdCs_ok he ps vs hvs)

theorem toDVss_ok {Φ' : Fz} {objs' : Objs} (hs : StR Φ' θ base w env objs' a.tmps) {cs : List CV} (hf : Frz objs objs' cs) (hle : Le Φ Φ') : ∀ (css : List (List CV)) (ps : List (Nat × Operand)) (xs : List (List DV)), (∀ l ∈ css, ∀ c ∈ l, c ∈ cs) →
    All2 (fun (cs : List CV) (p : Nat × Operand) => All2 (CR Φ θ objs) cs (a.eval p.2).cells.toList) css ps → toDVss objs css = some xs →
    All2 (Den Φ') xs.flatten (ps.map fun p => (a.eval p.2).cells.toList).flatten ∧ (∀ k, (∀ l ∈ css, l.length = k) → ∀ x ∈ xs, x.length = k) ∧ xs.length = css.length
  | [], ps, xs, _, hr, h => by
    have := hr.nil_left; subst this
    simp [toDVss] at h; subst h
    exact ⟨All2.nil, fun k _ x hx => by simp at hx, rfl⟩
  | l :: css, ps, xs, hm, hr, h => by
    obtain ⟨p, ps', rfl, h1, h2⟩ := hr.cons_left
    unfold toDVss at h
    split at h
    case h_2 => cases h
    case h_1 x ys hx hys =>
    injection h with h; subst h
    obtain ⟨g1, g2, g3⟩ := toDVss_ok hs hf hle css ps' ys (fun l' hl' => hm l' (by simp [hl'])) h2 hys
    refine ⟨?_, fun k hk y hy => ?_, by simp [g3]⟩
    · simp only [List.flatten_cons, List.map_cons]
      exact (toDVs_ok hs hf hle l _ x (hm l (by simp)) h1 hx).append g1
    · rcases List.mem_cons.1 hy with rfl | h
      · rw [toDVs_len hx]; exact hk l (by simp)
      · exact g2 k (fun l' hl' => hk l' (by simp [hl'])) y h

theorem frozen_new (hs : StR Φ θ base w env objs a.tmps) (cells : Array Value) (e : Nat) (fr : Nat × Nat) {w1 : World} (hw1 : w1.heap = w.heap) (hb1 : Below w.heap.size w w1) {xs : List (List DV)} {k c : Nat} (hk : ∀ x ∈ xs, x.length = k) (hk0 : 0 < k) (hc : xs.length ≤ c)
    (hd : All2 (Den Φ) xs.flatten (cells.toList.take (xs.length * k))) :
    ∃ Φ', Le Φ Φ' ∧ New Φ Φ' base ∧ New Φ Φ' w.heap.size ∧ Sat Φ' (w1.alloc (.cells cells e fr)) ∧ Den Φ' (.sl xs) (.slice (some ⟨w.heap.size, 0, none⟩) xs.length c) := by
  have hsz : w1.heap.size = w.heap.size := by rw [hw1]
  have hle : Le Φ (addRow Φ w.heap.size (cells.toList.take (xs.length * k))) := addRow_le (sat_none hs.sat)
  have hbel : Below w.heap.size w (w1.alloc (.cells cells e fr)) := hb1.alloc (by rw [hsz]; exact Nat.le_refl _) _
  refine ⟨_, hle, fun b o hb => ?_, fun b o hb => ?_, ?_, ?_⟩
  · unfold addRow; rw [if_neg (by have := hs.base; omega)]
  · unfold addRow; rw [if_neg (by omega)]
  · intro b o u hu
    unfold addRow at hu
    split at hu
    · rename_i e'; subst e'
      have hh : (w1.alloc (.cells cells e fr)).heap[w.heap.size]? = some (.cells cells e fr) := by rw [← hsz]; exact Go.heap_alloc_new w1 _
      rw [cell_of_row _ _ o cells e fr hh]
      rw [List.getElem?_take] at hu
      split at hu
      · simpa using hu
      · cases hu
    · exact (hbel.cell (p := ⟨b, o, none⟩) (hs.sat.lt hu)).trans (hs.sat b o u hu)
  · by_cases hne : xs = []
    · subst hne; exact .nil _ _
    · have hlen := flat_len hk
      refine .sl xs k w.heap.size 0 c (fun j i => (cells.toList.take (xs.length * k)).getD (j * k + i) default) hne hk hk0 hc (fun j i hj hi => ?_) (fun j i x y hx hy => ?_)
      · have hlt : j * k + i < (cells.toList.take (xs.length * k)).length := by
          rw [← hd.1, hlen]
          have : (j + 1) * k ≤ xs.length * k := Nat.mul_le_mul_right _ hj
          rw [Nat.succ_mul] at this; omega
        simp only [addRow, if_true, Nat.zero_add]
        rw [List.getElem?_eq_getElem hlt, List.getD_eq_getElem?_getD, List.getElem?_eq_getElem hlt]; rfl
      · have hf := flat_get hk hx hy
        obtain ⟨u, hu, hden⟩ := hd.get hf
        rw [List.getD_eq_getElem?_getD, hu]
        exact hden.mono hle

theorem evBuildSlice_ok (hC : CfgOk P C) {strict : Bool} {o : Oper} {t len : Nat} {ps : Array (Nat × Operand)} (ho : o.op = .buildSlice t len ps) (hs : StR Φ θ base w env objs a.tmps) (h : evBuildSlice C strict env t len ps.toList objs = some (v, objs')) :
    OpR P o a w (Post Φ θ base w env objs a.tmps v objs') := by
  unfold evBuildSlice at h
  split at h
  case h_2 => cases h
  case h_1 ti css hti hcss =>
  split at h
  case h_2 => cases h
  case h_1 e hkind =>
  split at h
  case h_2 => cases h
  case h_1 te hte =>
  split at h
  case isFalse => cases h
  case isTrue hcond =>
  obtain ⟨hidx, hlens, hroom, hsz⟩ := hcond
  obtain ⟨d, hd, _, hk⟩ := (hC.ty _ _ hti).desc
  rw [hkind] at hk
  have hk : d = .slice e := hk
  subst hk
  obtain ⟨i, z, hi, hsi, hby, hz, hz0, hzc, _⟩ := (hC.ty _ _ hte).info
  have hcr := rdCs_ok (Φ := Φ) (θ := θ) (objs := objs) hs.env _ _ hcss
  have hpl : ps.toList.length = len := by have := congrArg List.length hidx; simpa using this
  have hcl : css.length = len := by rw [hcr.1, hpl]
  have hcsz : ∀ l ∈ css, l.length = te.size := fun l hl => by simpa using List.all_eq_true.1 hlens l hl
  -- the machine's run
  have hvals : ∀ p ∈ (ps.toList.map fun (i, x) => (i, a.eval x)), p.2.cells.size = te.size := by
    intro p hp
    obtain ⟨q, hq, rfl⟩ := List.mem_map.1 hp
    obtain ⟨j, hj, rfl⟩ := List.getElem_of_mem hq
    have hj' : j < css.length := by rw [hcr.1]; exact hj
    have := (hcr.2 j _ _ (List.getElem?_eq_getElem hj') (List.getElem?_eq_getElem hj)).1
    rw [hcsz _ (List.getElem_mem hj')] at this
    simpa using this.symm
  have hrun : ∃ out : Array Value, (Instr.buildSlice t len (ps.map fun (i, x) => (i, a.eval x))).run P w = .ok (.slice (some ⟨w.heap.size, 0, none⟩) len len) (w.alloc (.cells out e)) ∧ out.toList = (ps.toList.map fun p => (a.eval p.2).cells.toList).flatten := by
    have hmk : ∀ (zz : Array Value), ∃ out, Instr.fill (fun i => some (i * te.size, te.size)) ((Array.range (len * te.size)).map (zz[· % zz.size]!)) (ps.toList.map fun (i, x) => (i, a.eval x)) = some out ∧ out.toList = (ps.toList.map fun p => (a.eval p.2).cells.toList).flatten := by
      intro zz
      obtain ⟨out, h1, h2⟩ := fill_seq te.size (ps.toList.map fun (i, x) => (i, a.eval x)) 0 ((Array.range (len * te.size)).map (zz[· % zz.size]!)) (by
        rw [List.length_map, hpl, List.map_map]
        have : (List.map ((fun x => x.1) ∘ fun (x : Nat × Operand) => (x.1, a.eval x.2)) ps.toList) = ps.toList.map (·.1) := rfl
        rw [this, hidx, List.range_eq_range']) hvals (by simp [hpl])
      refine ⟨out, h1, ?_⟩
      rw [h2]
      have e1 : ((Array.range (len * te.size)).map (zz[· % zz.size]!)).toList.drop ((0 + (ps.toList.map fun (i, x) => (i, a.eval x)).length) * te.size) = [] := by
        apply List.drop_eq_nil_of_le
        simp [hpl]
      rw [e1]
      simp [List.map_map, Function.comp_def]
    have n24 : ¬ (len * te.size > 2 ^ 24) := by omega
    by_cases h0 : len * te.size = 0
    · obtain ⟨out, h1, h2⟩ := hmk #[]
      refine ⟨out, ?_, h2⟩
      have h1' : Instr.fill (fun i => some (i * te.size, te.size)) ((Array.range (len * te.size)).map ((#[] : Array Value)[· % (#[] : Array Value).size]!)) (ps.map fun (i, x) => (i, a.eval x)).toList = some out := by simpa using h1
      simp only [Instr.buildSlice, Sem.run_bind, run_underlying hd, Result.andThen_ok, (hC.ty _ _ hte).size w]
      rw [if_neg n24, if_pos h0]
      simp only [Sem.run_bind, Sem.run_pure, Result.andThen_ok]
      rw [h1']
      simp [newRow]
    · obtain ⟨out, h1, h2⟩ := hmk z.cells
      refine ⟨out, ?_, h2⟩
      have h1' : Instr.fill (fun i => some (i * te.size, te.size)) ((Array.range (len * te.size)).map (z.cells[· % z.cells.size]!)) (ps.map fun (i, x) => (i, a.eval x)).toList = some out := by simpa using h1
      have hzv : (zeroValue e).run P w = .ok z w := by simp [zeroValue, typeInfo, hi, hz]
      simp only [Instr.buildSlice, Sem.run_bind, run_underlying hd, Result.andThen_ok, (hC.ty _ _ hte).size w]
      rw [if_neg n24, if_neg h0]
      simp only [Sem.run_bind, Sem.run_pure, Result.andThen_ok, hzv]
      rw [h1']
      simp [newRow]
  obtain ⟨out, hrun, hout⟩ := hrun
  have hexec : (execOp a.eval o).run P w = .ok (.value (.slice (some ⟨w.heap.size, 0, none⟩) len len)) (w.alloc (.cells out e)) := by
    unfold execOp
    simp [ho, hrun]
  have houts : out.size = len * te.size := by
    have h1 := congrArg List.length hout
    have h2 := flat_len (xs := ps.toList.map fun p => (a.eval p.2).cells.toList) (k := te.size) (fun x hx => by
      obtain ⟨q, hq, rfl⟩ := List.mem_map.1 hx
      have := hvals (q.1, a.eval q.2) (List.mem_map.2 ⟨q, hq, rfl⟩)
      simpa using this)
    rw [h2] at h1
    simpa [hpl] using h1
  have hl24 : len ≤ 16777216 := by
    have := Nat.le_trans (Nat.le_mul_of_pos_right len hsz) hroom
    exact this
  split at h
  case isTrue h0 =>
    simp at h
    obtain ⟨rfl, rfl⟩ := h
    obtain ⟨rfl, _⟩ := h0
    exact .value hexec (arr_new_post hs e te.size 0 0 hsz out [] rfl (by simp) (Nat.le_refl _) (by simp [maxLen]) (by simpa using houts) (by simpa using All2.nil))
  case isFalse h0 =>
  split at h
  case h_2 => cases h
  case h_1 xs hxs =>
  split at h
  case isTrue => cases h
  case isFalse hstrict =>
  simp at h
  obtain ⟨rfl, rfl⟩ := h
  obtain ⟨Φ1, hle1, hn1, hg1, hs1, hf1⟩ := frzs_ok css.flatten hs
  obtain ⟨hdd, hall, hxl⟩ := toDVss_ok hs1 hf1 hle1 css ps.toList xs (fun l hl c hc => List.mem_flatten.2 ⟨l, hl, hc⟩) hcr hxs
  have hall' := hall te.size hcsz
  have hxlen : xs.length = len := by omega
  obtain ⟨Φ2, hle2, hn2, hn2', hsat2, hden⟩ := frozen_new hs1 out e (0, 0) (w1 := w) rfl (Below.refl _ _) hall' hsz (c := len) (by omega) (by
    rw [hxlen, ← houts, List.take_of_length_le (by simp), hout]; exact hdd)
  rw [hxlen] at hden
  have hbel : Below w.heap.size w (w.alloc (.cells out e)) := (Below.refl _ _).alloc (Nat.le_refl _) _
  exact .value hexec ⟨Φ2, θ, ⟨hle1.trans hle2, hg1, fun b o hb => (hn2 b o hb).trans (hn1 b o hb), hbel.mono hs.base⟩, hs1.below hbel hle2 hn2' hsat2, hden⟩

theorem strOf_ok : ∀ {xs : List (List DV)} {l : List Int}, strOf xs = some l → xs = l.map fun n => [DV.sc (.int .u8 n)]
  | [], l, h => by simp [strOf] at h; subst h; rfl
  | x :: xs, l, h => by
    unfold strOf at h
    split at h
    · cases ‹_ :: _ = []›
    · rename_i n ys heq
      injection heq with h1 h2; subst h1; subst h2
      split at h
      · rename_i l' hl'
        injection h with h; subst h
        rw [strOf_ok hl']; rfl
      · cases h
    · cases h

theorem flat_single {α β : Type} (f : α → β) : ∀ l : List α, (l.map fun x => [f x]).flatten = l.map f
  | [] => rfl
  | x :: l => by simp [flat_single f l]

theorem evText_ok (hC : CfgOk P C) {o : Oper} {src dst : Nat} {x : Operand} (ho : o.op = .convert src dst x) (hs : StR Φ θ base w env objs a.tmps) (h : evText C src dst (rd1 env x) objs = some (v, objs')) :
    OpR P o a w (Post Φ θ base w env objs a.tmps v objs') := by
  unfold evText at h
  split at h
  case h_2 => cases h
  case h_1 ts td cx hts htd hx =>
  obtain ⟨ds, hds, _, hks⟩ := (hC.ty _ _ hts).desc
  obtain ⟨dd, hdd, _, hkd⟩ := (hC.ty _ _ htd).desc
  have hu8 : ∀ e, (C.ti e).map TI.kind = some (TK.int .u8) → P.underlying e = some (.int .u8) := by
    intro e he
    obtain ⟨te, hte, hk⟩ := Option.map_eq_some_iff.1 he
    obtain ⟨d, hd, _, hkk⟩ := (hC.ty _ _ hte).desc
    rw [hk] at hkk
    have hkk : d = .int .u8 := hkk
    rw [hd, hkk]
  split at h
  case h_3 => cases h
  case h_1 e hk1 hk2 =>
    rw [hk1] at hks; rw [hk2] at hkd
    have hks : ds = .slice e := hks
    have hkd : dd = .string := hkd
    subst hks; subst hkd
    split at h
    case h_2 => cases h
    case h_1 xs he hxs =>
    split at h
    case h_2 => cases h
    case h_1 l hl =>
    simp at h
    obtain ⟨rfl, rfl⟩ := h
    obtain ⟨Φ1, hle1, hn1, hg1, hs1, hf1⟩ := frzs_ok [cx] hs
    have hden := toDV_ok hs1 hf1 hle1 (by simp) (rd1_ok hs.env hx) hxs
    have hxl := strOf_ok hl
    subst hxl
    refine .value (cv := .string (strOfNums l)) (w' := w) ?_ ⟨Φ, θ, Goes.refl _ _ _ _ _, hs, sv_ok rfl⟩
    have hr : (convert src dst (a.eval x)).run P w = .ok (.string (strOfNums l)) w := by
      by_cases hne : l = []
      · subst hne
        obtain ⟨ad, c, hv, _⟩ := den_sl_form hden
        rw [hv]
        cases ad with
        | none => exact run_convert_bytes_nil w src e hds (hu8 e he) 0 c dst hdd
        | some ad =>
          obtain ⟨b, off, spot⟩ := ad
          simp only [convert, Sem.run_bind, run_underlying hds, run_underlying hdd, run_underlying (hu8 e he), Result.andThen_ok]
          simp [Conv.bytesToString, loadCells, loadCellsFrom]
          rfl
      · have hne' : (l.map fun n => [DV.sc (.int .u8 n)]) ≠ [] := by simpa using hne
        obtain ⟨b, off, c, news, hv, hdn, hat, hnl, _⟩ := den_flat (k := 1) hden hne' hs1.sat (fun y hy => by obtain ⟨n, _, rfl⟩ := List.mem_map.1 hy; rfl)
        rw [hv]
        have hlen : (l.map fun n => [DV.sc (.int .u8 n)]).length = l.length := by simp
        rw [hlen]
        refine run_convert_bytes_arg w src e hds (hu8 e he) b off l.length c l rfl (fun i hi => ?_) dst hdd
        have hfl : (l.map fun n => [DV.sc (.int .u8 n)]).flatten = l.map fun n => DV.sc (.int .u8 n) := flat_single _ l
        rw [hfl] at hdn
        have hi' : (l.map fun n => DV.sc (.int .u8 n))[i]? = some (.sc (.int .u8 (l.getD i 0))) := by
          simp [List.getD_eq_getElem?_getD, List.getElem?_eq_getElem hi]
        obtain ⟨u, hu, hd⟩ := hdn.get hi'
        have := (den_sc hd).1
        subst this
        exact hat i _ hu
    unfold execOp
    simp [ho, hr]
  case h_2 e hk1 hk2 =>
    rw [hk1] at hks; rw [hk2] at hkd
    have hks : ds = .string := hks
    have hkd : dd = .slice e := hkd
    subst hks; subst hkd
    split at h
    case h_2 => cases h
    case h_1 s he =>
    simp at h
    obtain ⟨rfl, rfl⟩ := h
    have hv := (den_sc (rd1_ok hs.env hx)).1
    have hrun := run_bytes_of_string (P := P) w src dst e s hds hdd (hu8 e he)
    have hbl : (bytesOf s).length = s.size := by simp [bytesOf]
    have hdrew : Below w.heap.size w w.drew := (Below.refl _ _).drew
    have hfl : (bytesOf s).flatten = s.data.toList.map fun b => DV.sc (.int .u8 b.toNat) := flat_single _ _
    obtain ⟨Φ2, hle2, hn2, hn2', hsat2, hden⟩ := frozen_new hs (bytesRow s (grownCap w s.size 0 e)) e ((bytesRow s (grownCap w s.size 0 e)).size, (bytesRow s (grownCap w s.size 0 e)).size + 1) (w1 := w.drew) rfl hdrew (xs := bytesOf s) (k := 1) (c := grownCap w s.size 0 e)
      (fun y hy => by unfold bytesOf at hy; obtain ⟨n, _, rfl⟩ := List.mem_map.1 hy; rfl) (by omega) (by rw [hbl]; exact grownCap_ge w s.size 0 e) (by
        rw [hfl, hbl]
        have : ((bytesRow s (grownCap w s.size 0 e)).toList.take (s.size * 1)) = s.data.toList.map fun b => Value.int .u8 b.toNat := by
          have hsl : (s.data.toList.map fun b => Value.int .u8 b.toNat).length = s.size := by simp
          simp only [bytesRow, Array.toList_append, Array.toList_map, Nat.mul_one]
          rw [List.take_append_of_le_length (by omega), List.take_of_length_le (by omega)]
        rw [this]
        refine All2.map_left ⟨by simp, fun i y u hy hu => ?_⟩
        rw [List.getElem?_map, hy] at hu
        simp at hu; subst hu
        exact .sc _ rfl)
    rw [hbl] at hden
    have hbel : Below w.heap.size w (w.drew.alloc (.cells (bytesRow s (grownCap w s.size 0 e)) e ((bytesRow s (grownCap w s.size 0 e)).size, (bytesRow s (grownCap w s.size 0 e)).size + 1))) := hdrew.alloc (Nat.le_refl _) _
    refine .value (cv := .slice (some ⟨w.heap.size, 0, none⟩) s.size (grownCap w s.size 0 e)) ?_ ⟨Φ2, θ, ⟨hle2, Go2.refl _ _, hn2, hbel.mono hs.base⟩, hs.below hbel hle2 hn2' hsat2, hden⟩
    unfold execOp
    simp [ho, hv, hrun]

theorem rowsOf_len (k : Nat) : ∀ (n : Nat) (l : List DV), (rowsOf k n l).length = n
  | 0, _ => rfl
  | n + 1, l => by simp [rowsOf, rowsOf_len k n]
theorem rowsOf_row (k : Nat) : ∀ (n : Nat) (l : List DV), l.length = n * k → ∀ x ∈ rowsOf k n l, x.length = k
  | 0, _, _, x, hx => by simp [rowsOf] at hx
  | n + 1, l, h, x, hx => by
    rw [Nat.succ_mul] at h
    rcases List.mem_cons.1 hx with rfl | hx
    · rw [List.length_take]; omega
    · exact rowsOf_row k n _ (by rw [List.length_drop]; omega) x hx
theorem rowsOf_flat (k : Nat) : ∀ (n : Nat) (l : List DV), l.length = n * k → (rowsOf k n l).flatten = l
  | 0, l, h => by rw [Nat.zero_mul] at h; rw [List.eq_nil_of_length_eq_zero h]; rfl
  | n + 1, l, h => by
    rw [Nat.succ_mul] at h
    rw [rowsOf, List.flatten_cons, rowsOf_flat k n _ (by rw [List.length_drop]; omega), List.take_append_drop]

theorem toDVs_plain : ∀ (cs : List CV) (ds : List DV) (us : List Value), toDVs [] cs = some ds → All2 (CR Φ θ objs) cs us → All2 (Den Φ) ds us
  | [], ds, us, h, hr => by
    simp [toDVs] at h; subst h
    have := hr.nil_left; subst this; exact All2.nil
  | c :: cs, ds, us, h, hr => by
    unfold toDVs at h
    split at h
    case h_2 => cases h
    case h_1 x xs hx hxs =>
    injection h with h; subst h
    obtain ⟨u, us', rfl, h1, h2⟩ := hr.cons_left
    refine All2.cons ?_ (toDVs_plain cs xs us' hxs h2)
    cases c with
    | d y => simp [toDV] at hx; subst hx; exact h1
    | nil =>
      simp [toDV] at hx; subst hx
      have hu : u = .slice none 0 0 := h1
      rw [hu]; exact .nil _ _
    | _ => simp [toDV] at hx

theorem evSliceArr_ok (hC : CfgOk P C) {o : Oper} {t : Nat} {x : Operand} {lo hi mx : Option Operand} (ho : o.op = .slice t x lo hi mx) (hs : StR Φ θ base w env objs a.tmps)
    (h : evSliceArr C t (rd1 env x) (bound env lo) (bound env hi) mx.isNone objs = some (v, objs')) : OpR P o a w (Post Φ θ base w env objs a.tmps v objs') := by
  have hb : ∀ (y : Option Operand) (d n : Int), bound env y d = some n → (y.map a.eval = none ∧ n = d) ∨ ∃ k, y.map a.eval = some (.int k n) := by
    intro y d n hn
    rcases bound_ok hs.env hn with ⟨rfl, rfl⟩ | ⟨o, k, rfl, hk⟩
    · exact .inl ⟨rfl, rfl⟩
    · exact .inr ⟨k, by simp [hk]⟩
  unfold evSliceArr at h
  split at h
  case h_2 => cases h
  case h_1 ti id n off hti hx =>
  obtain ⟨d, hd, _, hk⟩ := (hC.ty _ _ hti).desc
  split at h
  case h_2 => cases h
  case h_1 m e hkind hmx =>
  have hmx0 : mx = none := by
    cases mx with
    | none => rfl
    | some y => cases hmx
  subst hmx0
  rw [hkind] at hk
  have hk : d = .array m e := hk
  subst hk
  split at h
  case h_2 => cases h
  case h_1 te tt cs l u hte hob hl hu =>
  split at h
  case h_2 => cases h
  case h_1 ds hds =>
  split at h
  case isFalse => cases h
  case isTrue hcond =>
  obtain ⟨rfl, rfl, hdl, hk0, hm, h0, h1, h2⟩ := hcond
  simp only [Option.some.injEq, Prod.mk.injEq] at h
  obtain ⟨rfl, rfl⟩ := h
  obtain ⟨b, cells, hθ, hge, hh, hcells, hno⟩ := hs.ob id _ hob
  obtain ⟨b', hb', hv⟩ := ptr_val (rd1_ok hs.env hx) (m := 0) (Lr_of hob) rfl
  rw [hθ] at hb'
  have : b = b' := by simpa [pblk] using hb'
  subst this
  have hden := toDVs_plain cs ds _ hds hcells
  have hcl : cells.toList.length = m * te.size := by rw [← hden.1]; exact hdl
  have hfl := rowsOf_flat te.size m ds hdl
  have hrow := rowsOf_row te.size m ds hdl
  have hlen := rowsOf_len te.size m ds
  have hown : w.ownsRow base tt te.size (.slice (some ⟨b, 0, none⟩) m m) (rowsOf te.size m ds).length cells.toList := by
    rw [hlen]
    exact ⟨hcl, .inr ⟨b, m, cells, rfl, hge, hh, Nat.le_refl _, by simp only [maxLen]; omega, by simpa using hcl, List.take_of_length_le (by omega)⟩⟩
  rcases den_of_row hown (by rw [hfl]; exact hden) hrow hk0 (b := b) rfl hno with ⟨hd1, hsat⟩ | hn
  case inr => exact absurd hs.sat hn
  have hle : Le Φ (addRow Φ b cells.toList) := addRow_le hno
  have hnew : New Φ (addRow Φ b cells.toList) base := fun b' o hb' => by unfold addRow; rw [if_neg (by omega)]
  have hgo : Go2 θ θ objs (objs.set id .nil) := by
    have := go_set (θ := θ) (v := θ id) (ob := .nil) hob (fun m' hm' => by cases hm')
    rwa [thAt_self] at this
  have hlt := (List.getElem?_eq_some_iff.1 hob).1
  have hmb : mblk θ objs id = some b := by unfold mblk; rw [hob, hθ]; rfl
  have hst : StR (addRow Φ b cells.toList) θ base w env (objs.set id .nil) a.tmps := by
    refine ⟨hsat, hs.env.imp fun _ _ => TVR.go hle hgo, fun i ob hi => ?_, fun i j b1 hi hj => ?_, hs.base⟩
    · by_cases hid : i = id
      · subst hid
        rw [List.getElem?_set_self hlt] at hi; injection hi with hi; subst hi
        trivial
      · rw [List.getElem?_set_ne (Ne.symm hid)] at hi
        refine (hs.ob i ob hi).keep hle hgo rfl (fun b1 hp hk => ⟨rfl, fun o => ?_⟩)
        have hm1 : mblk θ objs i = some b1 := by
          unfold mblk; rw [hi]
          rcases hk with ⟨t, cs, rfl⟩ | ⟨e, k, xs, rfl⟩ | ⟨l, rfl⟩ <;> exact hp
        have : b1 ≠ b := fun e => by subst e; exact hid (hs.apart i id _ hm1 hmb)
        unfold addRow; rw [if_neg this]
    · have key : ∀ i b, mblk θ (objs.set id .nil) i = some b → mblk θ objs i = some b := by
        intro i b hi
        by_cases hid : i = id
        · subst hid
          unfold mblk at hi
          rw [List.getElem?_set_self hlt] at hi; cases hi
        · unfold mblk at hi ⊢
          rwa [List.getElem?_set_ne (Ne.symm hid)] at hi
      exact hs.apart i j b1 (key i b1 hi) (key j b1 hj)
  have hrb := run_bounds (P := P) (w := w) false m m _ _ l u (hb _ _ _ hl) (hb _ _ _ hu) h0 h1 h2
  have hsz := (hC.ty _ _ hte).size
  have hcut := den_cut (c := m) hd1 l.toNat u.toNat (by omega) (by omega) (by omega) (size := te.size) hrow
  refine .value (cv := .slice (some (if m = l.toNat then (⟨b, 0, none⟩ : Addr) else (⟨b, 0, none⟩ : Addr).add (l.toNat * te.size))) (u.toNat - l.toNat) (m - l.toNat)) (w' := w) ?_
    ⟨addRow Φ b cells.toList, θ, ⟨hle, hgo, hnew, Below.refl _ _⟩, hst, ?_⟩
  · unfold execOp
    simp [ho, hv, Instr.sliceAt, Instr.sureAddr, run_underlying hd, hrb, hsz]
  · have : (some (if m = l.toNat then (⟨b, 0, none⟩ : Addr) else (⟨b, 0, none⟩ : Addr).add (l.toNat * te.size))) = (if m = l.toNat then some ⟨b, 0, none⟩ else (some (⟨b, 0, none⟩ : Addr)).map (·.add (l.toNat * te.size))) := by split <;> rfl
    rw [this]; exact hcut

end
end Go.Vm

/- Texts behind rows of bytes, rows of bytes as texts. -/
set_option linter.unusedVariables false
set_option linter.unusedSimpArgs false
namespace Go.Vm
open Go Go.RowKit

theorem run_append_text_at {P : Program} {w : World} (base : Nat) (t u ty e : TypeId) (i : TypeInfo) (z : Value) (ht : P.underlying t = some (.slice e)) (hu : P.underlying u = some .string) (hi : P.info? e = some i) (hz : i.zero = some z)
    (hsize : i.size = 1) (hby : i.bytes = 1) (hzs : z.cells.size = 1) (v : Value) (n : Nat) (xs : List Value) (hown : w.ownsRow base e 1 v n xs) (s : ByteArray)
    (hbytes : n + s.size ≤ 140737488355328) (hbase : base ≤ w.heap.size) :
    ∃ v' w', (Builtin.append_ #[t, u] ty #[v, .string s]).run P w = .ok v' w' ∧ w'.ownsRow base e 1 v' (n + s.size) (xs ++ Lib.strCells s) ∧ w.grownBy w' v.ownBlock ∧ (v'.ownBlock = v.ownBlock ∨ v'.ownBlock = some w.heap.size) ∧ (s.size = 0 → v' = v) := by
  have h63 : n + s.size ≤ maxLen := by simp only [maxLen]; omega
  have hsmall : n + s.size ≤ 9223372036854775807 := by omega
  have hxl : xs.length = n := by simpa using hown.1
  have hlen : (xs ++ Lib.strCells s).length = (n + s.size) * 1 := by rw [List.length_append, hxl, Lib.strCells_length, Nat.mul_one]
  have fresh : ∀ (old : Nat) (cells : Array Value), cells.size = grownCap w (n + s.size) old e → cells.toList.take (n + s.size) = xs ++ Lib.strCells s →
      (w.drew.alloc (.cells cells e)).ownsRow base e 1 (.slice (some ⟨w.heap.size, 0, none⟩) (n + s.size) (grownCap w (n + s.size) old e)) (n + s.size) (xs ++ Lib.strCells s) := by
    intro old cells hc ht
    exact ⟨hlen, .inr ⟨w.heap.size, _, _, rfl, hbase, heap_alloc_new w.drew _, grownCap_ge w (n + s.size) old e, grownCap_le_maxLen w (n + s.size) old e h63, by simpa using hc, by simpa using ht⟩⟩
  have grow : ∀ (cells : Array Value) (row : Option Nat), w.grownBy (w.drew.alloc (.cells cells e)) row := fun cells row => ⟨rfl, rfl, rfl, by simp, fun k hk _ => heap_alloc_old w.drew _ hk⟩
  rcases hown.2 with ⟨rfl, rfl⟩ | ⟨g, cap, cur, rfl, hbg, hg, hnc, hcm, hcs, htake⟩
  · have hx : xs = [] := List.eq_nil_of_length_eq_zero hxl
    subst hx
    by_cases hm : s.size = 0
    · have hn : Lib.strCells s = [] := List.eq_nil_of_length_eq_zero (by rw [Lib.strCells_length]; exact hm)
      refine ⟨.slice none 0 0, w, ?_, by rw [hm, hn]; exact World.ownsRow_nil w base e 1, ⟨rfl, rfl, rfl, Nat.le_refl _, fun _ _ _ => rfl⟩, .inl rfl, fun _ => rfl⟩
      have hf := Lib.run_firstCells_string (P := P) w 1 s
      rw [hm] at hf
      simp [Builtin.append_, run_underlying ht, run_underlying hu, sizeOf, typeInfo, hi, hsize, Builtin.lenOf, hm, hf]
    · have hr := run_append_nil_string (P := P) w t u ty e i z ht hu hi hz s (by omega) (by omega) (by rw [hby]; omega)
      refine ⟨_, _, hr, ?_, grow _ _, .inr rfl, fun h => absurd h hm⟩
      have := fresh 0 (s.data.map (fun b => Value.int .u8 b.toNat) ++ Builtin.zeroCells z.cells (grownCap w s.size 0 e - s.size)) ?_ ?_
      · simpa using this
      · have hge := grownCap_ge w s.size 0 e
        have hss : s.data.size = s.size := rfl
        simp only [Array.size_append, Array.size_map, size_zeroCells, hzs, hss, Nat.zero_add]
        omega
      · have hss : s.data.size = s.size := rfl
        simp only [Array.toList_append, Array.toList_map, Nat.zero_add, List.nil_append]
        rw [List.take_append_of_le_length (by simp), List.take_of_length_le (by simp)]
        rfl
  · by_cases hroom : n + s.size ≤ cap
    · have hcs' : cur.size = cap := by simpa using hcs
      have hr := Lib.run_append_room_string (P := P) w t u ty e i ht hu hi hsize g n cap cur hg s hroom (by omega)
      refine ⟨_, _, hr, ⟨hlen, .inr ⟨g, cap, _, rfl, hbg, setRow_heap w g cur _ e _ hg, hroom, hcm, ?_, ?_⟩⟩, ⟨rfl, rfl, rfl, by simp, fun k _ hk => setRow_other w g k _ (fun e => hk (by simp [Value.ownBlock, e]))⟩, .inl rfl, fun h => by rw [h]; rfl⟩
      · simp only [List.size_toArray, List.length_append, List.length_take, List.length_drop, Array.length_toList, Lib.strCells_length]
        omega
      · have ht' : cur.toList.take n = xs := by simpa using htake
        rw [ht', ← hlen]
        exact List.take_left
    · have holds : ∀ j u, xs[j]? = some u → w.cell? ((⟨g, 0, none⟩ : Addr).add j) = some u := hown.cells (g := g) rfl
      have hr := Lib.run_append_grow_string (P := P) w t u ty e i z ht hu hi hz ⟨g, 0, none⟩ n cap xs (by rw [hsize]; simpa using hxl) holds s (by omega) (by omega) (by rw [hby]; exact growslice_fits (by omega) (by omega))
      refine ⟨_, _, hr, fresh cap _ ?_ ?_, grow _ _, .inr rfl, fun h => by omega⟩
      · have hge := grownCap_ge w (n + s.size) cap e
        simp only [Array.size_append, List.size_toArray, size_zeroCells, hzs, hxl, Lib.strCells_length]
        omega
      · simp only [Array.toList_append, List.append_assoc]
        rw [← List.append_assoc, show n + s.size = (xs ++ Lib.strCells s).length by rw [hlen]; omega]
        exact List.take_left

section
variable {P : Program} {Φ : Fz} {θ : Th} {base : Nat} {objs objs' : Objs} {env : Env} {a : Act} {w : World} {C : Cfg} {v : TV}

theorem bytesOf_len (s : ByteArray) : (bytesOf s).length = s.size := by simp [bytesOf]

theorem bytesOf_flat (s : ByteArray) : (bytesOf s).flatten = s.data.toList.map fun b => DV.sc (.int .u8 b.toNat) := flat_single _ _

theorem bytesOf_den (s : ByteArray) : All2 (Den Φ) (bytesOf s).flatten (Lib.strCells s) := by
  rw [bytesOf_flat]
  refine All2.map_left ⟨by simp [Lib.strCells], fun i y u hy hu => ?_⟩
  rw [Lib.strCells, List.getElem?_map, hy] at hu
  simp at hu; subst hu
  exact .sc _ rfl

theorem evAppendS_ok (hC : CfgOk P C) {o : Oper} {c : Call} {s x : Operand} {t u : Nat} (ho : o.op = .call c) (hcb : c.callee = .builtin .append) (hca : c.args.toList = [s, x]) (hct : c.argTypes.toList = [t, u]) (hs : StR Φ θ base w env objs a.tmps)
    (h : evAppendS C t u (rd1 env s) (rd1 env x) objs = some (v, objs')) : OpR P o a w (Post Φ θ base w env objs a.tmps v objs') := by
  have hrun : execOp a.eval o = _ := run_builtin ho hcb
  unfold evAppendS at h
  split at h
  case h_2 => cases h
  case h_1 ti tu id n str hti htu hsv hxv =>
  split at h
  case h_2 => cases h
  case h_1 e hkind hkindu =>
  split at h
  case h_2 => cases h
  case h_1 te e' k xs hte hob =>
  split at h
  case isFalse => cases h
  case isTrue hcond =>
  obtain ⟨hxn, rfl, rfl, hsz1, hby1, hroom⟩ := hcond
  simp only [Option.some.injEq, Prod.mk.injEq] at h
  obtain ⟨rfl, rfl⟩ := h
  obtain ⟨d, hd, _, hk⟩ := (hC.ty _ _ hti).desc
  rw [hkind] at hk
  have hk : d = .slice e' := hk
  subst hk
  obtain ⟨du, hdu, _, hku⟩ := (hC.ty _ _ htu).desc
  rw [hkindu] at hku
  have hku : du = .string := hku
  subst hku
  obtain ⟨i, z, hi, hsi, hby, hz, hz0, hzc, _⟩ := (hC.ty _ _ hte).info
  have hxf : a.eval x = .string str := (den_sc (rd1_ok hs.env hxv)).1
  have hθ := own_val (rd1_ok hs.env hsv) (Lr_of hob) hxn.symm
  obtain ⟨vs, hown, hdx, hall, hk0, hno⟩ := hs.ob id _ hob
  obtain ⟨v', w', hr, hown', hgrow, hat', hsame⟩ := run_append_text_at (P := P) (w := w) base t u o.type e' i z hd hdu hi hz (by omega) (by omega) (by omega) (θ id) xs.length vs hown str hroom hs.base
  have hvb := own_pblk hown
  have hvb' := own_pblk hown'
  have hgrowB : Below base w w' := (Below.refl base w).grown hgrow hs.base (fun k hk => by
    have := hown.lt k hk; omega)
  have hlen : (xs ++ bytesOf str).length = xs.length + str.size := by simp [bytesOf_len]
  have hgo : Go2 θ (thAt θ id v') objs (objs.set id (.arr e' 1 (xs ++ bytesOf str))) := by
    by_cases h0 : str.size = 0
    · exact go_set hob (fun m' hm' => ⟨xs.length, rfl, by simp only [len1, hlen] at hm'; injection hm' with hm'; omega, fun _ => hsame h0⟩)
    · exact go_set hob (fun m' hm' => ⟨xs.length, rfl, by simp only [len1, hlen] at hm'; injection hm' with hm'; omega, fun e => by simp only [len1, hlen] at hm'; injection hm' with hm'; omega⟩)
  have hno' : ∀ b, pblk v' = some b → ∀ o, Φ b o = none := by
    intro b hb o
    rcases hat' with h | h
    · rw [hvb', h, ← hvb] at hb; exact hno b hb o
    · rw [hvb', h] at hb; injection hb with hb; subst hb; exact sat_none hs.sat o
  have hkeepB : ∀ b, b < w.heap.size → (∀ b', pblk (θ id) = some b' → b ≠ b') → w'.heap[b]? = w.heap[b]? := fun b hb hne' =>
    hgrow.block b hb (fun e => by rw [← hvb] at e; exact hne' b e.symm rfl)
  have hst := hs.change (w' := w') (ob := .arr e' 1 (xs ++ bytesOf str)) v' hob hgo
    ⟨vs ++ Lib.strCells str, by rw [thAt_same, hlen]; exact hown', by
      rw [List.flatten_append]; exact hdx.append (bytesOf_den str), fun y hy => by
        rcases List.mem_append.1 hy with h | h
        · exact hall y h
        · unfold bytesOf at h; obtain ⟨n, _, rfl⟩ := List.mem_map.1 h; rfl, by omega, fun b hb o => by rw [thAt_same] at hb; exact hno' b hb o⟩
    (fun b o u hu => by
      have hb := hs.sat.lt hu
      have := hkeepB b hb (fun b' hb' e => by subst e; rw [hno b hb'] at hu; cases hu)
      exact (World.cell?_of_block (w := w) (a := ⟨b, o, none⟩) this).trans (hs.sat b o u hu))
    (fun j b hj hm => by
      have hb := hs.mblk_ge hm
      have hne' : ∀ b', pblk (θ id) = some b' → b ≠ b' := fun b' hb' e => by
        subst e
        exact hj (hs.apart j id b hm (by unfold mblk; rw [hob]; exact hb'))
      refine ⟨hkeepB b hb.2 hne', fun e => ?_⟩
      rcases hat' with h | h
      · rw [hvb', h, ← hvb] at e; exact hne' b e rfl
      · rw [hvb', h] at e; injection e with e; omega)
    (Nat.le_trans hs.base hgrow.size)
  refine .value (cv := v') (w' := w') ?_ ⟨Φ, thAt θ id v', ⟨Le.refl _, hgo, New.refl _ _, hgrowB⟩, hst, ?_⟩
  · rw [hrun, arr2 hca, arr2 hct]
    simp [builtin, hθ, hxf, hr]
  · refine ⟨?_, some (xs.length + str.size), ?_, fun m hm => ⟨by injection hm with hm; omega, fun _ => (thAt_same _ _ _).symm⟩⟩
    · rcases hown'.2 with ⟨h1, h2⟩ | ⟨g, cap, cur, hv', _, _, hnc', _⟩
      · exact ⟨none, 0, by rw [h1, h2], fun h => by omega, by omega⟩
      · exact ⟨_, cap, hv', fun _ => ⟨g, rfl⟩, by omega⟩
    · rw [← hlen]
      exact Lr_of (by rw [List.getElem?_set_self (List.getElem?_eq_some_iff.1 hob).1])

theorem txL_ok : ∀ {xs : List (List DV)} {l : List UInt8}, txL xs = some l → xs = l.map fun b => [DV.sc (.int .u8 b.toNat)]
  | [], l, h => by simp [txL] at h; subst h; rfl
  | x :: xs, l, h => by
    unfold txL at h
    split at h
    · cases ‹_ :: _ = []›
    · rename_i n ys heq
      injection heq with h1 h2; subst h1; subst h2
      split at h
      · rename_i hn
        rw [Option.map_eq_some_iff] at h
        obtain ⟨l', hl', rfl⟩ := h
        rw [txL_ok hl']
        have : ((UInt8.ofNat n.toNat).toNat : Int) = n := by
          rw [UInt8.toNat_ofNat']; omega
        simp only [List.map_cons, this]
      · cases h
    · cases h

theorem freeze_other (w : World) (p : Addr) (n b : Nat) (h : b ≠ p.block) : (w.freeze p n).heap[b]? = w.heap[b]? := by
  unfold World.freeze
  split
  · rfl
  · simp only [Array.getElem?_modify]
    rw [if_neg (Ne.symm h)]

theorem freeze_size (w : World) (p : Addr) (n : Nat) : (w.freeze p n).heap.size = w.heap.size := by
  unfold World.freeze
  split
  · rfl
  · simp

theorem evUStr_ok (hC : CfgOk P C) {o : Oper} {c : Call} {p m : Operand} {t u : Nat} (ho : o.op = .call c) (hcb : c.callee = .builtin .unsafeString) (hca : c.args.toList = [p, m]) (hct : c.argTypes.toList = [t, u]) (hs : StR Φ θ base w env objs a.tmps)
    (h : evUStr C t (rd1 env p) (rdS env m) objs = some (v, objs')) : OpR P o a w (Post Φ θ base w env objs a.tmps v objs') := by
  have hrun : execOp a.eval o = _ := run_builtin ho hcb
  unfold evUStr at h
  split at h
  case h_2 => cases h
  case h_1 tp id n off mm htp hp hm =>
  split at h
  case h_2 => cases h
  case h_1 e e' k xs hkind hob =>
  split at h
  case h_2 => cases h
  case h_1 te s hte htx =>
  split at h
  case isFalse => cases h
  case isTrue hcond =>
  obtain ⟨rfl, rfl, rfl, hsz1, hxn, rfl, h0, hn⟩ := hcond
  simp only [Option.some.injEq, Prod.mk.injEq] at h
  obtain ⟨rfl, rfl⟩ := h
  unfold txt at htx
  rw [Option.map_eq_some_iff] at htx
  obtain ⟨l, hl, rfl⟩ := htx
  have hxl := txL_ok hl
  subst hxl
  have hll : l.length = n := by simpa using hxn
  obtain ⟨d, hd, _, hk⟩ := (hC.ty _ _ htp).desc
  rw [hkind] at hk
  have hk : d = .pointer e' := hk
  subst hk
  obtain ⟨i, z, hi, hsi, _⟩ := (hC.ty _ _ hte).info
  obtain ⟨vs, hown, hdx, hall, hk0, hno⟩ := hs.ob id _ hob
  obtain ⟨b, hv, ss, hss, hmm⟩ := rd1_ok hs.env hp
  rw [Lr_of hob] at hss; injection hss with hss
  have hb : pblk (θ id) = some b := (hmm _ hss.symm).2 hxn.symm
  have hge := own_ge hown hb
  obtain ⟨g, cap, cur, hθv, _, hg, hnc0, _, hcs, htake⟩ : ∃ g cap cur, θ id = .slice (some ⟨g, 0, none⟩) (l.map fun b => [DV.sc (.int .u8 b.toNat)]).length cap ∧ base ≤ g ∧ w.heap[g]? = some (.cells cur e' (0, 0)) ∧
      (l.map fun b => [DV.sc (.int .u8 b.toNat)]).length ≤ cap ∧ cap ≤ maxLen ∧ cur.size = cap * 1 ∧ cur.toList.take ((l.map fun b => [DV.sc (.int .u8 b.toNat)]).length * 1) = vs := by
    rcases hown.2 with ⟨h1, _⟩ | h
    · rw [h1] at hb; cases hb
    · exact h
  have hgb : g = b := by rw [hθv] at hb; injection hb
  subst hgb
  have hcells : ∀ j x, l[j]? = some x → w.cell? ((⟨g, 0, none⟩ : Addr).add j) = some (.int .u8 x.toNat) := by
    intro j x hx
    have hfl : (l.map fun b => [DV.sc (.int .u8 b.toNat)]).flatten = l.map fun b => DV.sc (.int .u8 b.toNat) := flat_single _ l
    rw [hfl] at hdx
    have hx' : (l.map fun b => DV.sc (.int .u8 b.toNat))[j]? = some (.sc (.int .u8 x.toNat)) := by rw [List.getElem?_map, hx]; rfl
    obtain ⟨u, hu, hdu⟩ := hdx.get hx'
    have := (den_sc hdu).1
    subst this
    exact hown.cells (g := g) (by rw [hθv]; rfl) j _ hu
  have hsh : w.shape? g = some (e', cur.size) := by
    simp [World.shape?, hg]
  have hnc : n ≤ cur.size := by
    rw [hcs]; simp only [List.length_map] at hnc0; omega
  have hkm := (rdS_ok hs.env hm).1
  have hgo : Go2 θ θ objs (objs.set id .nil) := by
    have := go_set (θ := θ) (v := θ id) (ob := .nil) hob (fun m' hm' => by cases hm')
    rwa [thAt_self] at this
  have hst := hs.change (w' := w.freeze ⟨g, 0, none⟩ l.length) (ob := .nil) (θ id) hob (by rw [thAt_self]; exact hgo) trivial
    (fun b1 o u hu => by
      have hne : b1 ≠ g := fun e => by subst e; rw [hno _ hb] at hu; cases hu
      exact (World.cell?_of_block (w := w) (a := ⟨b1, o, none⟩) (freeze_other _ _ _ _ hne)).trans (hs.sat b1 o u hu))
    (fun j b1 hj hm => by
      have hne : b1 ≠ g := fun e => by
        subst e
        exact hj (hs.apart j id _ hm (by unfold mblk; rw [hob]; exact hb))
      exact ⟨freeze_other _ _ _ _ hne, fun e => hne (by rw [hb] at e; injection e with e; exact e.symm)⟩)
    (by rw [freeze_size]; exact hs.base)
  rw [thAt_self] at hst
  refine .value (cv := .string ⟨l.toArray⟩) (w' := w.freeze ⟨g, 0, none⟩ l.length) ?_ ⟨Φ, θ, ⟨Le.refl _, hgo, New.refl _ _, Lib.below_freeze (Below.refl _ _) hge.1 _⟩, hst, sv_ok rfl⟩
  have hr := Lib.run_unsafeString_row (P := P) w t u o.type e' hd (by unfold Program.cellsOf; rw [hi]; simp [hsi, hsz1]) g cur.size hsh l (by intro e; subst e; simp at hll; omega) (by omega) (by omega) hcells
  rw [hll] at hr
  rw [hrun, arr2 hca, arr2 hct]
  simp only [hll]
  simp [builtin, hv, hkm, hr]

end
end Go.Vm

/- Maps whose keys are numbers: a new one, an entry more, a look. -/
set_option linter.unusedVariables false
set_option linter.unusedSimpArgs false
namespace Go.Vm
open Go Go.RowKit

section
variable {P : Program} {Φ : Fz} {θ : Th} {base : Nat} {objs objs' : Objs} {env : Env} {a : Act} {w : World} {C : Cfg} {v : TV}

theorem evMakeMap_ok {o : Oper} {t : Nat} {ti : Option TI} (ho : o.op = .makeMap t none) (hs : StR Φ θ base w env objs a.tmps) (h : evMakeMap ti objs = some (v, objs')) :
    OpR P o a w (Post Φ θ base w env objs a.tmps v objs') := by
  unfold evMakeMap at h
  split at h
  case h_2 => cases h
  split at h
  case h_2 => cases h
  simp only [Option.some.injEq, Prod.mk.injEq] at h
  obtain ⟨rfl, rfl⟩ := h
  have hb := (Below.refl base w).alloc hs.base (.map #[] 0)
  have hb0 := (Below.refl w.heap.size w).alloc (Nat.le_refl _) (.map #[] 0)
  have h1 : StR Φ θ base (w.alloc (.map #[] 0)) env objs a.tmps := hs.below hb0 (Le.refl _) (New.refl _ _) (hs.sat.below hb0)
  have hg := go_push θ objs (.tab []) (.map (some w.heap.size))
  have h2 := h1.push (.tab []) (.map (some w.heap.size))
    ⟨w.heap.size, #[], 0, thAt_same _ _ _, hs.base, Go.heap_alloc_new w _, All2.nil, sat_none hs.sat⟩
    (fun i b hb hp => fresh_blk hs hb (by simpa [pblk] using hp.symm))
  refine .value (cv := .map (some w.heap.size)) (w' := w.alloc (.map #[] 0)) ?_ ⟨Φ, _, ⟨Le.refl _, hg, New.refl _ _, hb⟩, h2, ⟨w.heap.size, rfl, some 0, Lr_push rfl, fun m hm => ⟨by omega, fun _ => ?_⟩⟩⟩
  · unfold execOp
    simp [ho, run_makeMap]
  · rw [thAt_same]; rfl

theorem tab_val (hs : StR Φ θ base w env objs a.tmps) {id : Nat} {l : List (Int × CV)} {u : Value} (hu : CR Φ θ objs (.mp id) u) (hob : objs[id]? = some (.tab l)) :
    ∃ b es clock, u = .map (some b) ∧ θ id = .map (some b) ∧ base ≤ b ∧ w.heap[b]? = some (.map es clock) ∧ All2 (fun p e => e.key = .int .i64 p.1 ∧ CR Φ θ objs p.2 e.val) l es.toList ∧ (∀ o, Φ b o = none) := by
  obtain ⟨b, es, ck, hθ, hge, hh, hall, hno⟩ := hs.ob id _ hob
  obtain ⟨b', rfl, s, hs', hr⟩ := hu
  rw [Lr_of hob] at hs'; injection hs' with hs'
  have := (hr 0 hs'.symm).2 rfl
  rw [hθ] at this
  have : b = b' := by simpa [pblk] using this
  subst this
  exact ⟨b, es, ck, rfl, hθ, hge, hh, hall, hno⟩

theorem tget_find {n : Int} : ∀ {l : List (Int × CV)} {m : List MapEntry} (i : Nat), All2 (fun p e => e.key = .int .i64 p.1 ∧ CR Φ θ objs p.2 e.val) l m →
    match tget n l with
    | some c => ∃ j u, Instr.findNow (.int .i64) (.int .i64 n) m i = some (some (j, u)) ∧ CR Φ θ objs c u
    | none => Instr.findNow (.int .i64) (.int .i64 n) m i = some none
  | [], m, i, h => by obtain rfl := h.nil_left; rfl
  | p :: ps, m, i, h => by
    obtain ⟨e, m', rfl, ⟨hk, hv⟩, ht⟩ := h.cons_left
    unfold tget
    by_cases hn : n = p.1
    · rw [if_pos hn]
      exact ⟨i, e.val, by simp [Instr.findNow, Instr.sameNow, hk, hn], hv⟩
    · rw [if_neg hn]
      have := tget_find (n := n) (i + 1) ht
      have hf : Instr.findNow (.int .i64) (.int .i64 n) (e :: m') i = Instr.findNow (.int .i64) (.int .i64 n) m' (i + 1) := by
        have hb : (n == p.1) = false := beq_eq_false_iff_ne.2 hn
        simp [Instr.findNow, Instr.sameNow, hk, hb]
      rw [hf]
      exact this

theorem TyOk.map {t k e : Nat} {ti : TI} (h : TyOk P t ti) (hk : ti.kind = .map k e) : P.underlying t = some (.map k e) := by
  obtain ⟨d, h1, _, h2⟩ := h.desc
  rw [hk] at h2
  rw [h1]; exact congrArg some h2.1

theorem TyOk.mapz {t k e : Nat} {ti : TI} (h : TyOk P t ti) (hk : ti.kind = .map k e) : (zeroValue e).run P w = .ok .nilFunc w := by
  obtain ⟨d, h1, _, h2⟩ := h.desc
  rw [hk] at h2
  obtain ⟨_, i, hi, hz⟩ := h2
  simp [zeroValue, typeInfo, hi, hz]

theorem TyOk.i64 (hC : CfgOk P C) {t : Nat} (h : (C.ti t).map TI.kind = some (.int .i64)) : P.underlying t = some (.int .i64) := by
  rw [Option.map_eq_some_iff] at h
  obtain ⟨ti, h1, h2⟩ := h
  obtain ⟨d, h3, _, h4⟩ := (hC.ty _ _ h1).desc
  rw [h2] at h4
  rw [h3]; exact congrArg some h4

theorem evTput_ok (hC : CfgOk P C) {o : Oper} {t : Nat} {m k x : Operand} (ho : o.op = .insert t m k x ∨ o.op = .mapUpdate t m k x) (hs : StR Φ θ base w env objs a.tmps) (h : evTput C t (rd1 env m) (rdS env k) (rd1 env x) objs = some (v, objs')) :
    OpR P o a w (Post Φ θ base w env objs a.tmps v objs') := by
  unfold evTput at h
  split at h
  case h_2 => cases h
  case h_1 ti id n c hti hm hk hx =>
  split at h
  case h_2 => cases h
  case h_1 kt et l hkind hob =>
  split at h
  case h_2 => cases h
  case h_1 hkt hget =>
  simp only [Option.some.injEq, Prod.mk.injEq] at h
  obtain ⟨rfl, rfl⟩ := h
  obtain ⟨b, es, ck, hv, hθ, hge, hh, hall, hno⟩ := tab_val hs (rd1_ok hs.env hm) hob
  have hkv := (rdS_ok hs.env hk).1
  have hxv := rd1_ok hs.env hx
  have hmt := (hC.ty _ _ hti).map hkind
  have hki := TyOk.i64 hC hkt
  have hf := tget_find (n := n) 0 hall
  rw [hget] at hf
  have hrun : (Instr.mapUpdate t (.map (some b)) (.int .i64 n) (a.eval x)).run P w = .ok () { w with heap := w.heap.setIfInBounds b (.map (es.push { key := .int .i64 n, val := a.eval x, born := ck }) (ck + 1)) } := by
    simp [Instr.mapUpdate, run_underlying hmt, MapKept.run_getObj_map hh, MapKept.run_checkKey hki (k := .int .i64 n) rfl, MapKept.run_findKey hki hf, MapKept.run_setObj_map _ hh, Result.andThen]
  obtain ⟨hs1, hs2⟩ := MapKept.heap_set (o' := .map (es.push { key := .int .i64 n, val := a.eval x, born := ck }) (ck + 1)) hh
  generalize hw' : ({ w with heap := w.heap.setIfInBounds b (.map (es.push { key := .int .i64 n, val := a.eval x, born := ck }) (ck + 1)) } : World) = w' at hrun
  have hgo : Go2 θ θ objs (objs.set id (.tab (l ++ [(n, c)]))) := by
    have := go_set (θ := θ) (v := θ id) (ob := .tab (l ++ [(n, c)])) hob (fun m' hm' => ⟨m', hm', Nat.le_refl _, fun _ => rfl⟩)
    rwa [thAt_self] at this
  have hsat : Sat Φ w' := by
    intro b' o' u hu
    have hne : b' ≠ b := fun e => by subst e; rw [hno] at hu; cases hu
    rw [← hs.sat b' o' u hu, ← hw']
    exact World.cell?_of_block (w := w) (hs2 b' hne)
  have hbelow : Below base w w' := by rw [← hw']; exact ⟨rfl, rfl, rfl, by simp, fun i hi => hs2 i (by omega)⟩
  refine .skip (w' := w') ?_ ⟨Φ, θ, ⟨Le.refl _, hgo, New.refl _ _, hbelow⟩, ?_, ⟨[], rfl, All2.nil⟩⟩
  · unfold execOp
    rcases ho with ho | ho <;> simp [ho, hv, hkv, hrun]
  · have hch := hs.change (w' := w') (ob := .tab (l ++ [(n, c)])) (θ id) hob (by rw [thAt_self]; exact hgo)
      ⟨b, _, ck + 1, by rw [thAt_self]; exact hθ, hge, by rw [← hw']; exact hs1, by
        rw [thAt_self, Array.toList_push]
        exact ((hall.append (All2.cons ⟨rfl, hxv⟩ All2.nil)).imp fun _ _ h => ⟨h.1, CR.go (Le.refl _) hgo h.2⟩), hno⟩
      hsat
      (fun i b' hi hm => by
        have hne : b' ≠ b := fun e => by
          subst e
          exact hi (hs.apart i id b' hm (by unfold mblk; rw [hob, hθ]; rfl))
        exact ⟨by rw [← hw']; exact hs2 b' hne, by rw [hθ]; simp [pblk]; exact fun e => hne e.symm⟩) (by rw [← hw']; simpa using hs.base)
    rwa [thAt_self] at hch

theorem evTget_ok (hC : CfgOk P C) {o : Oper} {t : Nat} {m k : Operand} {ok : Bool} (ho : o.op = .lookup t m k ok) (hs : StR Φ θ base w env objs a.tmps) (h : evTget C t (rd1 env m) (rdS env k) ok objs = some (v, objs')) :
    OpR P o a w (Post Φ θ base w env objs a.tmps v objs') := by
  unfold evTget at h
  split at h
  case h_2 => cases h
  case h_1 ti id n hti hm hk =>
  split at h
  case h_2 => cases h
  case h_1 kt et l hkind hob =>
  split at h
  case h_2 => cases h
  case h_1 hkt =>
  obtain ⟨b, es, ck, hv, hθ, hge, hh, hall, hno⟩ := tab_val hs (rd1_ok hs.env hm) hob
  have hkv := (rdS_ok hs.env hk).1
  have hmt := (hC.ty _ _ hti).map hkind
  have hki := TyOk.i64 hC hkt
  have hf := tget_find (n := n) 0 hall
  split at h
  case h_1 c hget =>
    simp only [Option.some.injEq, Prod.mk.injEq] at h
    obtain ⟨rfl, rfl⟩ := h
    rw [hget] at hf
    obtain ⟨j, u, hf, hu⟩ := hf
    have hrun : (Instr.lookup t (.map (some b)) (.int .i64 n) ok).run P w = .ok (if ok then .tuple #[u, .bool true] else u) w := by
      simp [Instr.lookup, run_underlying hmt, MapKept.run_getObj_map hh, MapKept.run_checkKey hki (k := .int .i64 n) rfl, MapKept.run_findKey hki hf, Result.andThen]
    refine .value (cv := if ok then .tuple #[u, .bool true] else u) (w' := w) ?_ ⟨Φ, θ, Goes.refl _ _ _ _ _, hs, ?_⟩
    · unfold execOp
      simp [ho, hv, hkv, hrun]
    · cases ok with
      | true => exact ⟨[u, .bool true], rfl, All2.cons hu (All2.cons (.sc _ rfl) All2.nil)⟩
      | false => exact hu
  case h_2 hget =>
    simp only [Option.some.injEq, Prod.mk.injEq] at h
    obtain ⟨rfl, rfl⟩ := h
    rw [hget] at hf
    have hzrun : (zeroValue et).run P w = .ok .nilFunc w := (hC.ty _ _ hti).mapz hkind
    have hrun : (Instr.lookup t (.map (some b)) (.int .i64 n) ok).run P w = .ok (if ok then .tuple #[.nilFunc, .bool false] else .nilFunc) w := by
      simp [Instr.lookup, run_underlying hmt, MapKept.run_getObj_map hh, MapKept.run_checkKey hki (k := .int .i64 n) rfl, MapKept.run_findKey hki hf, hzrun, Result.andThen]
    refine .value (cv := if ok then .tuple #[.nilFunc, .bool false] else .nilFunc) (w' := w) ?_ ⟨Φ, θ, Goes.refl _ _ _ _ _, hs, ?_⟩
    · unfold execOp
      simp [ho, hv, hkv, hrun]
    · cases ok with
      | true => exact ⟨[.nilFunc, .bool false], rfl, All2.cons (.sc _ rfl) (All2.cons (.sc _ rfl) All2.nil)⟩
      | false => exact .sc _ rfl

end
end Go.Vm

/- Calls by contract; all operations. -/
set_option linter.unusedVariables false
set_option linter.unusedSimpArgs false
namespace Go.Vm
open Go Go.RowKit

section
variable {P : Program} {Φ : Fz} {θ : Th} {base : Nat} {objs objs' : Objs} {env : Env} {a : Act} {w : World} {C : Cfg} {v : TV}

theorem toDA_ok {Φ' : Fz} {objs' : Objs} (hs : StR Φ' θ base w env objs' a.tmps) {cs : List CV} (hf : Frz objs objs' cs) (hle : Le Φ Φ') {x : V1} (hm : ∀ c ∈ v1cells x, c ∈ cs) {u : Value} (hr : V1R Φ θ objs x u) {d : DA} (h : toDA objs x = some d) : DAR Φ' d u := by
  cases x with
  | one c =>
    simp only [toDA, Option.map_eq_some_iff] at h
    obtain ⟨y, hy, rfl⟩ := h
    exact toDV_ok hs hf hle (hm c (by simp [v1cells])) hr hy
  | agg l =>
    simp only [toDA, Option.map_eq_some_iff] at h
    obtain ⟨ys, hy, rfl⟩ := h
    obtain ⟨us, rfl, hall⟩ := hr
    exact ⟨us, rfl, toDVs_ok hs hf hle l us ys (fun c hc => hm c (by simpa [v1cells] using hc)) hall hy⟩

theorem toDAs_ok {Φ' : Fz} {objs' : Objs} (hs : StR Φ' θ base w env objs' a.tmps) {cs : List CV} (hf : Frz objs objs' cs) (hle : Le Φ Φ') : ∀ (xs : List V1) (us : List Value) (ds : List DA), (∀ x ∈ xs, ∀ c ∈ v1cells x, c ∈ cs) → All2 (V1R Φ θ objs) xs us → toDAs objs xs = some ds → All2 (DAR Φ') ds us
  | [], us, ds, _, hr, h => by
    have := hr.nil_left; subst this
    simp [toDAs] at h; subst h; exact All2.nil
  | x :: xs, us, ds, hm, hr, h => by
    obtain ⟨u, us', rfl, h1, h2⟩ := hr.cons_left
    unfold toDAs at h
    split at h
    case h_2 => cases h
    case h_1 y ys hy hys =>
    injection h with h; subst h
    exact All2.cons (toDA_ok hs hf hle (hm x (by simp)) h1 hy) (toDAs_ok hs hf hle xs us' ys (fun x' hx' => hm x' (by simp [hx'])) h2 hys)

theorem rdVs_ok (he : All2 (TVR Φ θ objs) env a.tmps.toList) : ∀ (xs : List Operand) (vs : List V1), rdVs env xs = some vs → All2 (V1R Φ θ objs) vs (xs.map a.eval)
  | [], vs, h => by simp [rdVs] at h; subst h; exact All2.nil
  | x :: xs, vs, h => by
    unfold rdVs at h
    split at h
    case h_2 => cases h
    case h_1 v vs' hv hvs =>
    injection h with h; subst h
    exact All2.cons (rd_ok he hv) (rdVs_ok he xs vs' hvs)

theorem ofRVs_ok : ∀ (rs : List RV) (us : List Value) {θ : Th} {objs : Objs} {B : Nat}, StR Φ θ base w env objs a.tmps → All2 (RVR Φ w B) rs us → base ≤ B → OwnApart rs us →
    (∀ (i : Nat) r u b, rs[i]? = some r → r.isOwn = true → us[i]? = some u → pblk u = some b → ∀ j, mblk θ objs j ≠ some b) →
    ∃ θ', Go2 θ θ' objs (ofRVs rs objs).2 ∧ StR Φ θ' base w env (ofRVs rs objs).2 a.tmps ∧ All2 (V1R Φ θ' (ofRVs rs objs).2) (ofRVs rs objs).1 us
  | [], us, θ, objs, B, hs, hr, hB, hap, hav => by
    have := hr.nil_left; subst this
    exact ⟨θ, Go2.refl _ _, hs, All2.nil⟩
  | r :: rs, us, θ, objs, B, hs, hr, hB, hap, hav => by
    obtain ⟨u, us', rfl, h1, h2⟩ := hr.cons_left
    have hap' : OwnApart rs us' := fun i j b r' s' u' v' hij hr' ho hs' ho' hu' hv' hb => hap (i + 1) (j + 1) b r' s' u' v' (by omega) (by simpa using hr') ho (by simpa using hs') ho' (by simpa using hu') (by simpa using hv') hb
    have hav' : ∀ (i : Nat) r u b, rs[i]? = some r → r.isOwn = true → us'[i]? = some u → pblk u = some b → ∀ j, mblk θ objs j ≠ some b := fun i r' u' b hr' ho hu' hb => hav (i + 1) r' u' b (by simpa using hr') ho (by simpa using hu') hb
    cases r with
    | one x =>
      obtain ⟨θ', hg, hs', hall⟩ := ofRVs_ok rs us' hs h2 hB hap' hav'
      exact ⟨θ', hg, hs', All2.cons h1 hall⟩
    | agg cs =>
      obtain ⟨θ', hg, hs', hall⟩ := ofRVs_ok rs us' hs h2 hB hap' hav'
      obtain ⟨vs, rfl, hc⟩ := h1
      exact ⟨θ', hg, hs', All2.cons ⟨vs, rfl, ddv_ok hc⟩ hall⟩
    | own e k xs =>
      obtain ⟨vs, hown, hd, hall, hk0, hno⟩ := h1
      have hown' : w.ownsRow base e k u xs.length vs := by
        refine ⟨hown.1, ?_⟩
        rcases hown.2 with ⟨rfl, h0⟩ | ⟨g, cap, cur, rfl, hb0, rest⟩
        · exact .inl ⟨rfl, h0⟩
        · exact .inr ⟨g, cap, cur, rfl, by omega, rest⟩
      have hg1 := go_push θ objs (.arr e k xs) u
      have hs1 := hs.push (.arr e k xs) u ⟨vs, by rw [thAt_same]; exact hown', hd, hall, hk0, by rw [thAt_same]; exact hno⟩ (fun i b hb hp => hav 0 _ u b rfl rfl rfl hp i hb)
      obtain ⟨θ', hg, hs', hall'⟩ := ofRVs_ok rs us' hs1 h2 hB hap' (fun i r' u' b hr' ho hu' hb j hj => by
        obtain ⟨ob, hob, hp, hkk⟩ := mblk_some hj
        by_cases hjl : j < objs.length
        · rw [mblk_push_old hjl] at hj; exact hav' i r' u' b hr' ho hu' hb j hj
        · have hj2 := (List.getElem?_eq_some_iff.1 hob).1
          simp at hj2
          have : j = objs.length := by omega
          subst this
          rw [thAt_same] at hp
          exact hap 0 (i + 1) b _ r' u u' (by omega) rfl rfl (by simpa using hr') ho rfl (by simpa using hu') hp hb)
      refine ⟨θ', hg1.trans hg, hs', All2.cons ?_ hall'⟩
      refine CR.go (Φ := Φ) (Φ' := Φ) (θ := thAt θ objs.length u) (objs := objs ++ [.arr e k xs]) (c := .own objs.length xs.length) (Le.refl _) hg (v := u) ⟨?_, some xs.length, Lr_push rfl, fun m hm => ⟨by injection hm with hm; omega, fun _ => (thAt_same _ _ _).symm⟩⟩
      rcases hown.2 with ⟨rfl, h0⟩ | ⟨g, cap, cur, rfl, _, _, hnc, _⟩
      · exact ⟨none, 0, by rw [h0], fun h => by omega, by omega⟩
      · exact ⟨_, cap, rfl, fun _ => ⟨g, rfl⟩, hnc⟩

theorem ofRVs_len : ∀ (rs : List RV) (objs : Objs), (ofRVs rs objs).1.length = rs.length
  | [], _ => rfl
  | .one _ :: rs, objs => by simp [ofRVs, ofRVs_len rs objs]
  | .agg _ :: rs, objs => by simp [ofRVs, ofRVs_len rs objs]
  | .own e k xs :: rs, objs => by simp [ofRVs, ofRVs_len rs]

theorem packV_ok {θ : Th} {objs : Objs} {vs : List V1} {us : List Value} (h : All2 (V1R Φ θ objs) vs us) : TVR Φ θ objs (packV vs) (packU us) := by
  match vs, us, h with
  | [], us, h => have := h.nil_left; subst this; exact ⟨[], rfl, All2.nil⟩
  | [x], us, h =>
    obtain ⟨u, us', rfl, h1, h2⟩ := h.cons_left
    have := h2.nil_left; subst this
    exact h1
  | x :: y :: l, us, h =>
    obtain ⟨u, us', rfl, h1, h2⟩ := h.cons_left
    obtain ⟨u', us'', rfl, h3, h4⟩ := h2.cons_left
    exact ⟨u :: u' :: us'', rfl, h⟩

theorem exec_call {o : Oper} {c : Call} {f : Nat} (ho : o.op = .call c) (hc : c.callee = .value (.func f)) (he : Enters P f) : (execOp a.eval o).run P w = .ok (.enter f (c.args.map a.eval)) w := by
  obtain ⟨fn, hfn, hb, hn⟩ := he
  unfold execOp
  simp only [ho, resolve, hc, Act.eval]
  have hb' : fn.body ≠ none := fun e => by rw [e] at hb; cases hb
  have hn' : fn.name ≠ "runtime.NumGoroutine" := by simpa using hn
  simp [Deferred.ofValue, invoke, callFunc, hfn, hb', hn']

theorem exec_clo {o : Oper} {c : Call} {t f : Nat} {x y : List Value} (ho : o.op = .call c) (hc : c.callee = .value (.tmp t)) (hv : a.eval (.tmp t) = .func (.func f) x.toArray y.toArray) (he : Enters P f) : (execOp a.eval o).run P w = .ok (.enter f (x.toArray ++ c.args.map a.eval ++ y.toArray)) w := by
  obtain ⟨fn, hfn, hb, hn⟩ := he
  unfold execOp
  simp only [ho, resolve, hc, hv]
  have hb' : fn.body ≠ none := fun e => by rw [e] at hb; cases hb
  have hn' : fn.name ≠ "runtime.NumGoroutine" := by simpa using hn
  simp [Deferred.ofValue, invoke, callFunc, hfn, hb', hn']

theorem ptrVs_ok {l : List (Nat × Nat)} {us : List Value} (h : All2 (PtR θ objs) l us) : All2 (V1R Φ θ objs) (l.map ptrV) us := All2.map_left (h.imp fun _ _ h => h)

theorem scal_drop {Φ Φ' : Fz} {w : World} {B : Nat} {r : RV} {u : Value} (hr : r.scal = true) (h : RVR Φ' w B r u) : RVR Φ w B r u := by
  cases r with
  | one x =>
    cases x with
    | sc y => obtain ⟨rfl, h1⟩ := den_sc h; exact .sc _ h1
    | sl xs => simp [RV.scal, DV.scal] at hr
  | agg cs =>
    obtain ⟨vs, rfl, hall⟩ := h
    refine ⟨vs, rfl, hall.1, fun i x y hx hy => ?_⟩
    have hx1 := List.all_eq_true.1 hr x (List.mem_of_getElem? hx)
    have := hall.2 i x y hx hy
    cases x with
    | sc z => obtain ⟨rfl, h1⟩ := den_sc this; exact .sc _ h1
    | sl xs => simp [DV.scal] at hx1
  | own e k xs => simp [RV.scal] at hr

theorem callV_ok (hK : CallsOk P C) {strict : Bool} {o : Oper} {c : Call} {f : Nat} (hex : (execOp a.eval o).run P w = .ok (.enter f (c.args.map a.eval)) w) (hf : C.calls.contains f = true) (hs : StR Φ θ base w env objs a.tmps) {vs : List V1} (hvs : rdVs env c.args.toList = some vs)
    (h : callV C strict f vs objs = some (v, objs')) : OpR P o a w (Post Φ θ base w env objs a.tmps v objs') := by
  have hvr := rdVs_ok (Φ := Φ) (θ := θ) (objs := objs) hs.env _ _ hvs
  unfold callV at h
  split at h
  case h_2 => cases h
  case h_1 das hdas =>
  split at h
  case h_2 => cases h
  case h_1 rs hrs =>
  split at h
  case isTrue => cases h
  case isFalse hstrict =>
  obtain ⟨Φ1, hle1, hn1, hg1, hs1, hf1⟩ := frzs_ok (vs.flatMap v1cells) hs
  have hda := toDAs_ok hs1 hf1 hle1 vs _ das (fun x hx c hc => List.mem_flatMap.2 ⟨x, hx, hc⟩) hvr hdas
  have hcall := hK.call f hf Φ1 w das (c.args.toList.map a.eval) rs hs1.sat hda hrs
  have hargs : (c.args.toList.map a.eval).toArray = c.args.map a.eval := by rw [← Array.toList_map]
  rw [hargs] at hcall
  -- from the call to the operation
  have go : ∀ (R : Value → World → Prop), (∀ v w' Φ', Below w.heap.size w w' → Le Φ1 Φ' → New Φ1 Φ' w.heap.size → Sat Φ' w' → RVsR Φ' w' w.heap.size rs v → R v w') → OpR P o a w R := by
    intro R hR K Q hKK
    unfold Oper.wp
    rw [hex, Oper.upon_enter]
    refine hcall.mono fun e w' he => ?_
    obtain ⟨v, Φ', rfl, h1, h2, h3, h4, h5⟩ := he
    exact hKK _ _ (hR v w' Φ' h1 h2 h3 h4 h5)
  have avoid : ∀ {Φ0 : Fz} {objs0 : Objs}, StR Φ0 θ base w env objs0 a.tmps → ∀ {Φ' : Fz} {w' : World} {us : List Value}, All2 (RVR Φ' w' w.heap.size) rs us → ∀ (i : Nat) r u b, rs[i]? = some r → r.isOwn = true → us[i]? = some u → pblk u = some b → ∀ j, mblk θ objs0 j ≠ some b := by
    intro Φ0 objs0 hs0 Φ' w' us hall i r u b hr hown hu hb j hj
    have h1 := hall.2 i r u hr hu
    cases r with
    | one x => cases hown
    | agg cs => cases hown
    | own e k xs =>
      obtain ⟨vs', hrow, _⟩ := h1
      have := (own_ge hrow hb).1
      have := (hs0.mblk_ge hj).2
      omega
  split at h
  case isTrue hsc =>
    split at h
    case isFalse => cases h
    case isTrue hrsc =>
    simp only [retV, Option.some.injEq, Prod.mk.injEq] at h
    obtain ⟨rfl, rfl⟩ := h
    refine go _ fun v w' Φ' hb hle hnew hsat hres => ?_
    obtain ⟨us, rfl, hall, hap⟩ := hres
    have hall0 : All2 (RVR Φ w' w.heap.size) rs us := ⟨hall.1, fun i r u hr hu => scal_drop (List.all_eq_true.1 hrsc r (List.mem_of_getElem? hr)) (hall.2 i r u hr hu)⟩
    have hst := hs.below hb (Le.refl _) (New.refl _ _) (hs.sat.below hb)
    obtain ⟨θ', hg, hs', hv⟩ := ofRVs_ok rs us hst hall0 hs.base hap (avoid hs hall)
    exact ⟨Φ, θ', ⟨Le.refl _, hg, New.refl _ _, hb.mono hs.base⟩, hs', packV_ok hv⟩
  case isFalse hsc =>
    split at h
    case isTrue => cases h
    case isFalse hst2 =>
    simp only [retV, Option.some.injEq, Prod.mk.injEq] at h
    obtain ⟨rfl, rfl⟩ := h
    refine go _ fun v w' Φ' hb hle hnew hsat hres => ?_
    obtain ⟨us, rfl, hall, hap⟩ := hres
    have hst := hs1.below hb hle hnew hsat
    obtain ⟨θ', hg, hs', hv⟩ := ofRVs_ok rs us hst hall hs.base hap (avoid hs1 hall)
    exact ⟨Φ', θ', ⟨hle1.trans hle, hg1.trans hg, fun b o hb' => (hnew b o (by have := hs.base; omega)).trans (hn1 b o hb'), hb.mono hs.base⟩, hs', packV_ok hv⟩

theorem inl_ok (hK : CallsOk P C) {o : Oper} {f : Nat} {us : List Value} (hex : (execOp a.eval o).run P w = .ok (.enter f us.toArray) w) (hf : C.inls.contains f = true) (hs : StR Φ θ base w env objs a.tmps) {vs : List V1} (hvr : All2 (V1R Φ θ objs) vs us)
    (h : C.inl f vs objs = some (v, objs')) : OpR P o a w (Post Φ θ base w env objs a.tmps v objs') := by
  have hcall := hK.inl f hf Φ θ base w objs vs _ v objs' ⟨hs.sat, All2.nil, hs.ob, hs.apart, hs.base⟩ hvr h
  intro K Q hKK
  unfold Oper.wp
  rw [hex, Oper.upon_enter]
  refine hcall.mono fun e w' he => ?_
  obtain ⟨u, Φ', θ', rfl, hg, hs', hu⟩ := he
  exact hKK _ _ ⟨Φ', θ', hg, ⟨hs'.sat, hs.env.imp fun _ _ => TVR.go hg.le hg.go, hs'.ob, hs'.apart, hs'.base⟩, hu⟩

theorem loud_ok (hC : CfgOk P C) (hK : CallsOk P C) {strict : Bool} {o : Oper} (hs : StR Φ θ base w env objs a.tmps) (h : evLoud C strict o env objs = some (v, objs')) : OpR P o a w (Post Φ θ base w env objs a.tmps v objs') := by
  unfold evLoud at h
  cases hop : o.op <;> simp only [hop] at h <;> try (cases h; done)
  case alloc t => split at h <;> first | cases h | exact evAlloc_ok hC hop hs h
  case box t x => split at h <;> first | cases h | exact evBox_ok hC hop hs h
  case load t p => exact evLoad_ok hC hop hs h
  case store t p x => split at h <;> first | cases h | exact evStore_ok hC hop hs h
  case buildSlice t len ps => exact evBuildSlice_ok hC hop hs h
  case makeSlice t l c => split at h <;> first | cases h | exact evMake_ok hC hop hs h
  case convert src dst x => exact evText_ok hC hop hs h
  case slice t x lo hi mx => split at h <;> first | cases h | exact evSliceArr_ok hC hop hs h
  case makeMap t r =>
    split at h
    case isTrue => cases h
    case isFalse hr =>
    cases r with
    | some _ => simp at hr
    | none => exact evMakeMap_ok hop hs h
  case insert t m k x => split at h <;> first | cases h | exact evTput_ok hC (.inl hop) hs h
  case mapUpdate t m k x => split at h <;> first | cases h | exact evTput_ok hC (.inr hop) hs h
  case lookup t m k ok => split at h <;> first | cases h | exact evTget_ok hC hop hs h
  case call c =>
    unfold evCall at h
    split at h
    case h_1 s x t u hcb hca hct =>
      split at h
      case isTrue => cases h
      case isFalse =>
      split at h
      case isTrue => exact evAppendS_ok hC hop hcb hca hct hs h
      case isFalse => exact evAppend_ok hC hop hcb hca hct hs h
    case h_2 x t hcb hca hct => split at h <;> first | cases h | exact evClear_ok hC hop hcb hca hct hs h
    case h_3 p m t u hcb hca hct => split at h <;> first | cases h | exact evUStr_ok hC hop hcb hca hct hs h
    case h_4 hcc =>
      split at h
      case isFalse =>
        split at h
        case isFalse => cases h
        case isTrue hf =>
        split at h
        case h_2 => cases h
        case h_1 vs hvs => exact inl_ok hK (us := c.args.toList.map a.eval) (by rw [exec_call hop hcc (hK.entersI _ hf), ← Array.toList_map]) hf hs (rdVs_ok hs.env _ _ hvs) h
      case isTrue hf =>
      split at h
      case h_2 => cases h
      case h_1 vs hvs => exact callV_ok hK (exec_call hop hcc (hK.enters _ hf)) hf hs hvs h
    case h_5 t hcc =>
      split at h
      case h_2 => cases h
      case h_1 f fs cs vs hr hvs =>
      obtain ⟨x, y, hv, hx, hy⟩ := rd1_ok hs.env hr
      split at h
      case isTrue hf =>
        refine inl_ok hK (us := x ++ c.args.toList.map a.eval ++ y) ?_ hf hs (((ptrVs_ok hx).append (rdVs_ok hs.env _ _ hvs)).append (ptrVs_ok hy)) h
        rw [exec_clo hop hcc hv (hK.entersI f hf)]
        simp
      case isFalse =>
      split at h
      case isFalse => cases h
      case isTrue hf =>
        obtain ⟨hf, rfl, rfl⟩ := hf
        have hx0 := hx.nil_left
        have hy0 := hy.nil_left
        subst hx0; subst hy0
        refine callV_ok hK ?_ hf hs hvs h
        rw [exec_clo hop hcc hv (hK.enters f hf)]
        simp
    case h_6 => cases h


theorem op_ok (hC : CfgOk P C) (hK : CallsOk P C) {strict : Bool} {o : Oper} (hs : StR Φ θ base w env objs a.tmps) (h : evOp C strict o env objs = some (v, objs')) : OpR P o a w (Post Φ θ base w env objs a.tmps v objs') := by
  have base_ok : ∀ {v : TV} {objs' : Objs}, (match evBlind C o env with | some v => some (v, objs) | none => evLoud C strict o env objs) = some (v, objs') → OpR P o a w (Post Φ θ base w env objs a.tmps v objs') := by
    intro v objs' h
    split at h
    · rename_i u hu
      simp only [Option.some.injEq, Prod.mk.injEq] at h
      obtain ⟨rfl, rfl⟩ := h
      exact blind_post hC hs hu
    · exact loud_ok hC hK hs h
  unfold evOp at h
  split at h
  · rename_i v1 objs1 h1
    simp only [Option.some.injEq] at h
    intro K Q hKK
    refine base_ok h1 K Q fun cv w' hp => hKK cv w' ?_
    have := own_post (ownsOf C o.dst) hp
    rw [h] at this
    exact this
  · exact base_ok h

end
end Go.Vm

/- Regions: in the order of the text; what operations look at; what strict ones leave alone. -/
set_option linter.unusedVariables false
set_option linter.unusedSimpArgs false
namespace Go.Vm
open Go Go.RowKit

section
variable {P : Program} {Φ : Fz} {θ : Th} {base : Nat} {objs objs' : Objs} {env : Env} {a : Act} {w : World} {C : Cfg} {v : TV}

theorem wanted_ok {ops : Array Oper} {o : Oper} {b : Bool} (he : All2 (TVR Φ θ objs) env a.tmps.toList) (h : guardOf ops env o = some b) : Region.wanted o (yielded ops a.tmps) = b := by
  unfold guardOf at h
  unfold Region.wanted
  cases hg : o.guard with
  | none => rw [hg] at h; simpa using h
  | some p =>
    obtain ⟨j, bb⟩ := p
    simp only [hg] at h ⊢
    unfold yielded
    cases ht : (ops[j]?).bind (·.dst) with
    | none => rw [ht] at h; cases h
    | some t =>
      simp only [ht] at h
      simp only [Option.bind_some]
      cases hx : env[t]? with
      | none => rw [hx] at h; cases h
      | some x =>
        obtain ⟨u, hu, hr⟩ := he.get hx
        have hu' : a.tmps[t]? = some u := by rw [← hu]; simp
        simp only [hx] at h
        split at h
        · rename_i c heq
          injection heq with heq; subst heq
          injection h with h
          obtain ⟨rfl, _⟩ := den_sc hr
          rw [hu']; simp only
          rw [← h]; cases c <;> cases bb <;> rfl
        · rename_i heq
          injection heq with heq; subst heq
          injection h with h
          obtain ⟨us, rfl, hall⟩ := hr
          rw [hu']; simp only
          rw [← h]; rfl
        · cases h

theorem putE_ok {x : TV} {u : Value} {dst : Option Nat} (h : StR Φ θ base w env objs a.tmps) (hx : TVR Φ θ objs x u) : StR Φ θ base w (putE env dst x) objs (a.put dst u).tmps := by
  cases dst with
  | none => exact h
  | some d =>
    refine ⟨h.sat, ?_, h.ob, h.apart, h.base⟩
    simp only [putE, Act.put, Array.toList_setIfInBounds]
    exact h.env.set d hx

theorem put_def (a : Act) (dst : Option Nat) (u : Value) : (a.put dst u).defers = a.defers := by cases dst <;> rfl

theorem undef_ok : TVR Φ θ objs (.tup []) undef := ⟨[], rfl, All2.nil⟩

def Thn (Φ : Fz) (θ : Th) (base : Nat) (w : World) (objs : Objs) (a : Act) (env' : Env) (objs' : Objs) (K : Act → World → Prop) : Prop :=
  ∀ Φ' θ' w' a', Goes Φ θ base w objs Φ' θ' w' objs' → StR Φ' θ' base w' env' objs' a'.tmps → a'.defers = a.defers → K a' w'

theorem evOne_ok (hC : CfgOk P C) (hK : CallsOk P C) {strict : Bool} {ops : Array Oper} {i : Nat} {o : Oper} (ho : ops[i]? = some o) {env' : Env} (hs : StR Φ θ base w env objs a.tmps) (h : evOne C strict ops o env objs = some (env', objs'))
    {K : Act → World → Prop} {Q : Exit → Act → World → Prop} (hk : Thn Φ θ base w objs a env' objs' K) : wpOp P ops Q i K a w := by
  unfold wpOp
  simp only [ho]
  unfold evOne at h
  split at h
  case h_1 hg =>
    rw [wanted_ok hs.env hg, if_pos rfl]
    split at h
    case h_2 => cases h
    case h_1 v objs1 hv =>
    simp only [Option.some.injEq, Prod.mk.injEq] at h
    obtain ⟨rfl, rfl⟩ := h
    refine .inl (op_ok hC hK hs hv K Q fun cv w' hp => ?_)
    obtain ⟨Φ', θ', hgo, hs', hr⟩ := hp
    exact hk Φ' θ' w' _ hgo (putE_ok hs' hr) (put_def _ _ _)
  case h_2 hg =>
    rw [wanted_ok hs.env hg]
    simp only [Bool.false_eq_true, if_false]
    simp only [Option.some.injEq, Prod.mk.injEq] at h
    obtain ⟨rfl, rfl⟩ := h
    exact hk Φ θ w _ (Goes.refl _ _ _ _ _) (putE_ok hs undef_ok) (put_def _ _ _)
  case h_3 => cases h

theorem evOps_ok (hC : CfgOk P C) (hK : CallsOk P C) {ops : Array Oper} {Q : Exit → Act → World → Prop} : ∀ (os : List Oper) (i : Nat) {Φ : Fz} {θ : Th} {w : World} {env : Env} {objs : Objs} {a : Act} {env' : Env} {objs' : Objs}, os = ops.toList.drop i → StR Φ θ base w env objs a.tmps →
    evOps C ops [] os env objs = some (env', objs') → Thn Φ θ base w objs a env' objs' (Q .normal) → wpOps P ops Q (List.range' i os.length) a w
  | [], i, Φ, θ, w, env, objs, a, env', objs', _, hs, h, hk => by
    simp only [evOps, Option.some.injEq, Prod.mk.injEq] at h
    obtain ⟨rfl, rfl⟩ := h
    simp only [List.length_nil, List.range'_zero, wpOps]
    exact hk Φ θ w a (Goes.refl _ _ _ _ _) hs rfl
  | o :: os, i, Φ, θ, w, env, objs, a, env', objs', ho, hs, h, hk => by
    have hoi : ops[i]? = some o := by
      have : (ops.toList.drop i)[0]? = some o := by rw [← ho]; rfl
      simpa using this
    have hos : os = ops.toList.drop (i + 1) := by
      have := congrArg List.tail ho
      simpa using this
    simp only [List.length_cons, List.range'_succ, wpOps_cons]
    unfold evOps at h
    split at h
    case h_2 => cases h
    case h_1 env1 objs1 h1 =>
    refine evOne_ok hC hK hoi hs h1 fun Φ1 θ1 w1 a1 hg1 hs1 hd1 => ?_
    refine evOps_ok hC hK os (i + 1) hos hs1 h fun Φ2 θ2 w2 a2 hg2 hs2 hd2 => ?_
    exact hk Φ2 θ2 w2 a2 (hg1.trans hg2) hs2 (hd2.trans hd1)

theorem rd1_congr {env env' : Env} {x : Operand} (h : rd env x = rd env' x) : rd1 env x = rd1 env' x := by unfold rd1; rw [h]
theorem rdS_congr {env env' : Env} {x : Operand} (h : rd env x = rd env' x) : rdS env x = rdS env' x := by unfold rdS; rw [rd1_congr h]
theorem rdI_congr {env env' : Env} {x : Operand} (h : rd env x = rd env' x) : rdI env x = rdI env' x := by unfold rdI; rw [rdS_congr h]
theorem rdB_congr {env env' : Env} {x : Operand} (h : rd env x = rd env' x) : rdB env x = rdB env' x := by unfold rdB; rw [rdS_congr h]
theorem rdPs_congr {env env' : Env} : ∀ (ps : List (Nat × Operand)), (∀ p ∈ ps, rd env p.2 = rd env' p.2) → rdPs env ps = rdPs env' ps
  | [], _ => rfl
  | p :: ps, h => by unfold rdPs; rw [h p (by simp), rdPs_congr ps (fun q hq => h q (by simp [hq]))]
theorem rdCs_congr {env env' : Env} : ∀ (ps : List (Nat × Operand)), (∀ p ∈ ps, rd env p.2 = rd env' p.2) → rdCs env ps = rdCs env' ps
  | [], _ => rfl
  | p :: ps, h => by unfold rdCs; rw [h p (by simp), rdCs_congr ps (fun q hq => h q (by simp [hq]))]
theorem rdVs_congr {env env' : Env} : ∀ (ps : List Operand), (∀ p ∈ ps, rd env p = rd env' p) → rdVs env ps = rdVs env' ps
  | [], _ => rfl
  | p :: ps, h => by unfold rdVs; rw [h p (by simp), rdVs_congr ps (fun q hq => h q (by simp [hq]))]

theorem rdPtrs_congr {env env' : Env} : ∀ (ps : List Operand), (∀ p ∈ ps, rd env p = rd env' p) → rdPtrs env ps = rdPtrs env' ps
  | [], _ => rfl
  | p :: ps, h => by unfold rdPtrs; rw [rd1_congr (h p (by simp)), rdPtrs_congr ps (fun q hq => h q (by simp [hq]))]

theorem evOp_congr {strict : Bool} {o : Oper} {env env' : Env} (h : ∀ x ∈ o.op.operands, rd env x = rd env' x) : evOp C strict o env objs = evOp C strict o env' objs := by
  have hb : evBlind C o env = evBlind C o env' := by
    unfold evBlind
    cases hop : o.op <;> simp only [hop, Op.operands] at h ⊢ <;> try rfl
    case build t ps => rw [rdPs_congr ps.toList (fun p hp => h p.2 (by simp; exact ⟨p.1, by simpa using hp⟩))]
    case slice t x lo hi mx =>
      have hx := h x (by simp)
      have hlo : bound env lo = bound env' lo := by
        funext d; cases lo with
        | none => rfl
        | some y => exact rdI_congr (h y (by simp))
      have hhi : bound env hi = bound env' hi := by
        funext d; cases hi with
        | none => rfl
        | some y => exact rdI_congr (h y (by simp))
      have hmx : bound env mx = bound env' mx := by
        funext d; cases mx with
        | none => rfl
        | some y => exact rdI_congr (h y (by simp))
      rw [rd1_congr hx, hlo, hhi, hmx]
    case call c =>
      cases hc : c.callee <;> simp only [hc, Call.operands] at h ⊢
      rename_i b
      unfold evBuiltin
      split <;> first | rfl | skip
      case h_1 x t ha _ => rw [rd1_congr (h x (by simp [← Array.mem_toList_iff, ha]))]
      case h_2 x y ha => rw [rdS_congr (h x (by simp [← Array.mem_toList_iff, ha])), rdS_congr (h y (by simp [← Array.mem_toList_iff, ha]))]
      case h_3 x y ha => rw [rdS_congr (h x (by simp [← Array.mem_toList_iff, ha])), rdS_congr (h y (by simp [← Array.mem_toList_iff, ha]))]
      case h_4 x ha => rw [rd1_congr (h x (by simp [← Array.mem_toList_iff, ha]))]
    case move x => exact h x (by simp)
    case assign x => exact h x (by simp)
    case pick c x y => rw [rdB_congr (h c (by simp)), h x (by simp), h y (by simp)]
    case binOp op t x y _ => rw [h x (by simp), h y (by simp)]
    case unOp op t x => rw [rdS_congr (h x (by simp))]
    case convert s d x => rw [h x (by simp)]
    case nilCheck x => rw [rd1_congr (h x (by simp))]
    case fieldAddr s x f => rw [rd1_congr (h x (by simp))]
    case field s x f => rw [h x (by simp)]
    case indexAddr t x i => rw [rd1_congr (h x (by simp)), rdI_congr (h i (by simp))]
    case index t x i => rw [h x (by simp), rdI_congr (h i (by simp))]
    case extract x i => rw [h x (by simp)]
    case makeFunc f fs cs =>
      unfold evMakeFunc
      rw [rdPtrs_congr fs.toList (fun p hp => h p (Array.mem_append.2 (.inl (by simpa using hp)))), rdPtrs_congr cs.toList (fun p hp => h p (Array.mem_append.2 (.inr (by simpa using hp))))]
  have hl : evLoud C strict o env objs = evLoud C strict o env' objs := by
    unfold evLoud
    cases hop : o.op <;> simp only [hop, Op.operands] at h ⊢ <;> try rfl
    case box t x => rw [h x (by simp)]
    case load t p => rw [rd1_congr (h p (by simp))]
    case store t p x => rw [rd1_congr (h p (by simp)), h x (by simp)]
    case buildSlice t n ps =>
      unfold evBuildSlice
      rw [rdCs_congr ps.toList (fun p hp => h p.2 (by simp; exact ⟨p.1, by simpa using hp⟩))]
    case makeSlice t l c => rw [rdI_congr (h l (by simp)), rdI_congr (h c (by simp))]
    case convert s d x => rw [rd1_congr (h x (by simp))]
    case insert t m k x => rw [rd1_congr (h m (by simp)), rdS_congr (h k (by simp)), rd1_congr (h x (by simp))]
    case mapUpdate t m k x => rw [rd1_congr (h m (by simp)), rdS_congr (h k (by simp)), rd1_congr (h x (by simp))]
    case lookup t m k ok => rw [rd1_congr (h m (by simp)), rdS_congr (h k (by simp))]
    case slice t x lo hi mx =>
      have hx := h x (by simp)
      have hlo : bound env lo = bound env' lo := by
        funext d; cases lo with
        | none => rfl
        | some y => exact rdI_congr (h y (by simp))
      have hhi : bound env hi = bound env' hi := by
        funext d; cases hi with
        | none => rfl
        | some y => exact rdI_congr (h y (by simp))
      rw [rd1_congr hx, hlo, hhi]
    case call c =>
      have ha : ∀ x ∈ c.args.toList, rd env x = rd env' x := fun x hx => h x (by unfold Call.operands; simp; exact .inr (by simpa using hx))
      unfold evCall
      split
      · rename_i s x t u _ hca _
        rw [rd1_congr (ha s (by rw [hca]; simp)), rd1_congr (ha x (by rw [hca]; simp))]
      · rename_i x t _ hca _
        rw [rd1_congr (ha x (by rw [hca]; simp))]
      · rename_i p m t u _ hca _
        rw [rd1_congr (ha p (by rw [hca]; simp)), rdS_congr (ha m (by rw [hca]; simp))]
      · rw [rdVs_congr _ ha]
      · rename_i t hcc
        have ht : rd env (.tmp t) = rd env' (.tmp t) := h _ (by unfold Call.operands; simp [hcc])
        rw [rdVs_congr _ ha, rd1_congr ht]
      · rfl
  unfold evOp
  rw [hb, hl]

theorem get_ext {ext : Objs} {id : Nat} {ob : Ob} (h : objs[id]? = some ob) : (objs ++ ext)[id]? = some ob := by
  rw [List.getElem?_append_left (List.getElem?_eq_some_iff.1 h).1]; exact h

theorem loadC_ext {ext : Objs} {size : Nat} {c : CV} {cs : List CV} (h : loadC objs size c = some cs) : loadC (objs ++ ext) size c = some cs := by
  cases c <;> simp only [loadC] at h ⊢ <;> try (exact h)
  rename_i id n off
  cases ho : objs[id]? with
  | none => rw [ho] at h; cases h
  | some ob => rw [ho] at h; rw [get_ext ho]; exact h

theorem toDV_ext {ext : Objs} {c : CV} {x : DV} (h : toDV objs c = some x) : toDV (objs ++ ext) c = some x := by
  cases c <;> simp only [toDV] at h ⊢ <;> try (exact h)
  case own id n =>
    cases ho : objs[id]? with
    | none => rw [ho] at h; cases h
    | some ob => rw [ho] at h; rw [get_ext ho]; exact h
  case vw id n lo hi k =>
    cases ho : objs[id]? with
    | none => rw [ho] at h; cases h
    | some ob => rw [ho] at h; rw [get_ext ho]; exact h

theorem toDVs_ext {ext : Objs} : ∀ {cs : List CV} {xs : List DV}, toDVs objs cs = some xs → toDVs (objs ++ ext) cs = some xs
  | [], xs, h => h
  | c :: cs, xs, h => by
    unfold toDVs at h ⊢
    split at h
    case h_2 => cases h
    case h_1 x ys hx hys => rw [toDV_ext hx, toDVs_ext hys]; exact h

theorem toDVss_ext {ext : Objs} : ∀ {cs : List (List CV)} {xs : List (List DV)}, toDVss objs cs = some xs → toDVss (objs ++ ext) cs = some xs
  | [], xs, h => h
  | c :: cs, xs, h => by
    unfold toDVss at h ⊢
    split at h
    case h_2 => cases h
    case h_1 x ys hx hys => rw [toDVs_ext hx, toDVss_ext hys]; exact h

theorem toDAs_ext {ext : Objs} : ∀ {vs : List V1} {xs : List DA}, toDAs objs vs = some xs → toDAs (objs ++ ext) vs = some xs
  | [], xs, h => h
  | c :: cs, xs, h => by
    unfold toDAs at h ⊢
    split at h
    case h_2 => cases h
    case h_1 x ys hx hys =>
      rw [toDAs_ext hys]
      have : toDA (objs ++ ext) c = some x := by
        cases c with
        | one c =>
          simp only [toDA, Option.map_eq_some_iff] at hx ⊢
          obtain ⟨y, hy, rfl⟩ := hx
          exact ⟨y, toDV_ext hy, rfl⟩
        | agg cs =>
          simp only [toDA, Option.map_eq_some_iff] at hx ⊢
          obtain ⟨y, hy, rfl⟩ := hx
          exact ⟨y, toDVs_ext hy, rfl⟩
      rw [this]; exact h

theorem frzs_none : ∀ (cs : List CV) (objs : Objs), cs.any isOwn = false → frzs objs cs = objs
  | [], _, _ => rfl
  | c :: cs, objs, h => by
    simp only [List.any_cons, Bool.or_eq_false_iff] at h
    unfold frzs
    simp only [List.foldl_cons]
    have : frz1 objs c = objs := by cases c <;> first | rfl | (simp [isOwn] at h)
    rw [this]
    exact frzs_none cs objs h.2

theorem ofRVs_none : ∀ (rs : List RV) (objs : Objs), rs.any RV.isOwn = false → (ofRVs rs objs).2 = objs ∧ ∀ objs', (ofRVs rs objs').1 = (ofRVs rs objs).1 ∧ (ofRVs rs objs').2 = objs'
  | [], _, _ => ⟨rfl, fun _ => ⟨rfl, rfl⟩⟩
  | .one x :: rs, objs, h => by
    simp only [List.any_cons, Bool.or_eq_false_iff] at h
    obtain ⟨h1, h2⟩ := ofRVs_none rs objs h.2
    exact ⟨h1, fun objs' => ⟨by simp [ofRVs, (h2 objs').1], (h2 objs').2⟩⟩
  | .agg x :: rs, objs, h => by
    simp only [List.any_cons, Bool.or_eq_false_iff] at h
    obtain ⟨h1, h2⟩ := ofRVs_none rs objs h.2
    exact ⟨h1, fun objs' => ⟨by simp [ofRVs, (h2 objs').1], (h2 objs').2⟩⟩
  | .own e k xs :: rs, objs, h => by simp [RV.isOwn] at h

theorem loud_strict {o : Oper} (h : evLoud C true o env objs = some (v, objs')) : objs' = objs ∧ ∀ ext, evLoud C true o env (objs ++ ext) = some (v, objs ++ ext) := by
  unfold evLoud at h ⊢
  cases hop : o.op <;> simp only [hop, if_true] at h ⊢ <;> try (cases h; done)
  case load t p =>
    unfold evLoad at h ⊢
    split at h
    case h_2 => cases h
    case h_1 ti c hti hp =>
    split at h
    case h_2 => cases h
    case h_1 cs hcs =>
    split at h
    case h_2 => cases h
    case h_1 u hu =>
    simp only [Option.some.injEq, Prod.mk.injEq] at h
    obtain ⟨rfl, rfl⟩ := h
    refine ⟨rfl, fun ext => ?_⟩
    simp only [loadC_ext hcs, hu]
  case buildSlice t len ps =>
    unfold evBuildSlice at h ⊢
    split at h
    case h_2 => cases h
    case h_1 ti css hti hcss =>
    split at h
    case h_2 => cases h
    case h_1 e hk =>
    split at h
    case h_2 => cases h
    case h_1 te hte =>
    split at h
    case isFalse => cases h
    case isTrue hcond =>
    rw [if_neg (by simp)] at h
    split at h
    case h_2 => cases h
    case h_1 xs hxs =>
    split at h
    case isTrue => cases h
    case isFalse hst =>
    simp only [Option.some.injEq, Prod.mk.injEq] at h
    obtain ⟨rfl, rfl⟩ := h
    have hno : (css.flatten).any isOwn = false := by
      simp only [Bool.true_and, Bool.not_eq_true] at hst
      rw [List.any_flatten]; exact hst
    refine ⟨frzs_none _ _ hno, fun ext => ?_⟩
    rw [if_pos hcond, if_neg (by simp), toDVss_ext hxs]
    simp only
    rw [if_neg hst, frzs_none _ _ hno]
  case convert s d x =>
    unfold evText at h ⊢
    split at h
    case h_2 => cases h
    case h_1 ts td cx hts htd hx =>
    split at h
    case h_3 => cases h
    case h_1 e hk1 hk2 =>
      split at h
      case h_2 => cases h
      case h_1 xs hte hxs =>
      split at h
      case h_2 => cases h
      case h_1 l hl =>
      simp only [Option.some.injEq, Prod.mk.injEq] at h
      obtain ⟨rfl, rfl⟩ := h
      refine ⟨rfl, fun ext => ?_⟩
      simp only [toDV_ext hxs, hte, hl]
    case h_2 e hk1 hk2 =>
      split at h
      case h_2 => cases h
      case h_1 s hte =>
      simp only [Option.some.injEq, Prod.mk.injEq] at h
      obtain ⟨rfl, rfl⟩ := h
      exact ⟨rfl, fun ext => by simp only [hte]⟩
  case call c =>
    unfold evCall at h ⊢
    split at h
    case h_1 => cases h
    case h_2 => cases h
    case h_3 => cases h
    case h_5 =>
      split at h
      case h_1 hb _ _ => cases hb
      case h_2 => cases h
    case h_6 => cases h
    case h_4 f hcc =>
    split at h
    case isFalse =>
      split at h
      case isFalse => cases h
      case isTrue =>
      split at h
      case h_1 hb _ => cases hb
      case h_2 => cases h
    case isTrue hf =>
    split at h
    case h_2 => cases h
    case h_1 vs hvs =>
    unfold callV at h
    split at h
    case h_2 => cases h
    case h_1 das hdas =>
    split at h
    case h_2 => cases h
    case h_1 rs hrs =>
    split at h
    case isTrue => cases h
    case isFalse hst =>
    have hno : rs.any RV.isOwn = false := by simpa using hst
    have key : ∀ o1 : Objs, (ofRVs rs o1).2 = o1 := fun o1 => (ofRVs_none rs o1 hno).1
    split at h
    case isTrue hsc =>
      split at h
      case isFalse => cases h
      case isTrue hrsc =>
      simp only [retV, Option.some.injEq, Prod.mk.injEq] at h
      obtain ⟨rfl, rfl⟩ := h
      refine ⟨key _, fun ext => ?_⟩
      simp only [hf, if_true, hvs]
      unfold callV
      simp only [toDAs_ext hdas, hrs]
      rw [if_neg hst, if_pos hsc, if_pos hrsc]
      simp only [retV, key, ((ofRVs_none rs objs hno).2 (objs ++ ext)).1]
    case isFalse hsc =>
      split at h
      case isTrue => cases h
      case isFalse hst2 =>
      have hno2 : (vs.flatMap v1cells).any isOwn = false := by simpa using hst2
      simp only [retV, Option.some.injEq, Prod.mk.injEq, frzs_none _ _ hno2] at h
      obtain ⟨rfl, rfl⟩ := h
      refine ⟨key _, fun ext => ?_⟩
      simp only [hf, if_true, hvs]
      unfold callV
      simp only [toDAs_ext hdas, hrs]
      rw [if_neg hst, if_neg hsc, if_neg hst2, frzs_none _ _ hno2]
      simp only [retV, key, ((ofRVs_none rs objs hno).2 (objs ++ ext)).1]

theorem op_strict {o : Oper} (h : evOp C true o env objs = some (v, objs')) : objs' = objs ∧ ∀ ext, evOp C true o env (objs ++ ext) = some (v, objs ++ ext) := by
  simp only [evOp] at h ⊢
  split at h
  · rename_i u hu
    simp only [Option.some.injEq, Prod.mk.injEq] at h
    obtain ⟨rfl, rfl⟩ := h
    exact ⟨rfl, fun ext => rfl⟩
  · rename_i hu
    obtain ⟨h1, h2⟩ := loud_strict h
    exact ⟨h1, fun ext => h2 ext⟩

theorem blind_loud {o : Oper} (hb : blindOp o.op = true) : evLoud C true o env objs = none := by
  unfold evLoud
  cases hop : o.op <;> rw [hop] at hb <;> first | rfl | (cases hb; done) | skip
  case call c =>
    simp only [blindOp] at hb
    simp only
    unfold evCall
    split
    · rename_i hc _ _; rw [hc] at hb; cases hb
    · rename_i hc _ _; rw [hc] at hb; cases hb
    · rename_i hc _ _; rw [hc] at hb; cases hb
    · rename_i hc; rw [hc] at hb; cases hb
    · rfl
    · rfl

theorem op_blind {o : Oper} (hb : blindOp o.op = true) (h : evOp C true o env objs = some (v, objs')) : ∀ objs1, evOp C true o env objs1 = some (v, objs1) := by
  intro objs1
  simp only [evOp] at h ⊢
  split at h
  · simp only [Option.some.injEq, Prod.mk.injEq] at h
    obtain ⟨rfl, rfl⟩ := h
    rfl
  · rw [blind_loud hb] at h; cases h

theorem ownCs_ext : ∀ (l : List (Nat × Nat × Nat)) (cs : List CV) (objs : Objs), ∃ ext, (ownCs l cs objs).2 = objs ++ ext
  | [], cs, objs => ⟨[], by simp [ownCs]⟩
  | (i, e, k) :: l, cs, objs => by
    unfold ownCs
    split
    · obtain ⟨ext, h⟩ := ownCs_ext l (cs.set i (.own objs.length 0)) (objs ++ [.arr e k []])
      exact ⟨.arr e k [] :: ext, by rw [h]; simp⟩
    · exact ownCs_ext l _ objs
    · exact ownCs_ext l cs objs

theorem alloc_ext {strict : Bool} {o : Oper} (hb : allocOp o.op = true) (h : evOp C strict o env objs = some (v, objs')) : ∃ ext, objs' = objs ++ ext := by
  unfold evOp at h
  cases hop : o.op <;> rw [hop] at hb <;> first | (cases hb; done) | skip
  rename_i t
  have hbl : evBlind C o env = none := by unfold evBlind; rw [hop]
  have hl : ∀ {v1 : TV} {objs1 : Objs}, evLoud C strict o env objs = some (v1, objs1) → (∃ id, v1 = .v (.one (.ptr id 0 0))) ∧ ∃ ext, objs1 = objs ++ ext := by
    intro v1 objs1 h
    unfold evLoud at h
    simp only [hop] at h
    split at h
    · cases h
    · unfold evAlloc at h
      split at h
      · simp only [Option.some.injEq, Prod.mk.injEq] at h
        obtain ⟨rfl, rfl⟩ := h
        obtain ⟨ext, he⟩ := ownCs_ext (ownsOf C o.dst) (zcs (by assumption : TI).zero) objs
        exact ⟨⟨_, rfl⟩, by rw [he, List.append_assoc]; exact ⟨_, rfl⟩⟩
      · cases h
  rw [hbl] at h
  simp only at h
  split at h
  · rename_i v1 objs1 h1
    obtain ⟨⟨id, rfl⟩, ext, rfl⟩ := hl h1
    simp only [Option.some.injEq] at h
    have e : ∀ (l : List (Nat × Nat × Nat)), ownV l (.v (.one (.ptr id 0 0))) (objs ++ ext) = (.v (.one (.ptr id 0 0)), objs ++ ext) := fun l => by cases l <;> rfl
    rw [e] at h
    simp only [Prod.mk.injEq] at h
    exact ⟨ext, h.2.symm⟩
  · exact (hl h).2

end
end Go.Vm

/- Regions whose guards are not split: sound. -/
set_option linter.unusedVariables false
set_option linter.unusedSimpArgs false
namespace Go.Vm
open Go Go.RowKit

def maskG : List (Nat × Bool) → Env → Env
  | [], env => env
  | (t, b) :: cs, env => if b = true then maskG cs env else (maskG cs env).set t (.tup [])

theorem maskG_len : ∀ (cs : List (Nat × Bool)) (env : Env), (maskG cs env).length = env.length
  | [], _ => rfl
  | (t, b) :: cs, env => by
    unfold maskG
    split
    · exact maskG_len cs env
    · rw [List.length_set]; exact maskG_len cs env

theorem maskG_get : ∀ {cs : List (Nat × Bool)} {env : Env} {t : Nat}, (cs.all fun p => p.1 != t || p.2) = true → (maskG cs env)[t]? = env[t]?
  | [], _, _, _ => rfl
  | (u, b) :: cs, env, t, h => by
    simp only [List.all_cons, Bool.and_eq_true, Bool.or_eq_true, bne_iff_ne, ne_eq] at h
    unfold maskG
    split
    · exact maskG_get h.2
    · rename_i hb
      rw [List.getElem?_set_ne (by rcases h.1 with h1 | h1; exact h1; exact absurd h1 hb)]
      exact maskG_get h.2

theorem maskG_gone : ∀ {cs : List (Nat × Bool)} {env : Env} {t : Nat} {x : TV}, (cs.all fun p => p.1 != t || p.2) = false → env[t]? = some x → (maskG cs env)[t]? = some (.tup [])
  | [], _, _, _, h, _ => by simp at h
  | (u, b) :: cs, env, t, x, h, hx => by
    have hl : t < (maskG cs env).length := by rw [maskG_len]; exact (List.getElem?_eq_some_iff.1 hx).1
    unfold maskG
    by_cases hc : (cs.all fun p => p.1 != t || p.2) = true
    · simp only [List.all_cons, hc, Bool.and_true, Bool.or_eq_false_iff, bne_eq_false_iff_eq] at h
      obtain ⟨rfl, rfl⟩ := h
      rw [if_neg (by simp), List.getElem?_set_self hl]
    · have hc' : (cs.all fun p => p.1 != t || p.2) = false := by simpa using hc
      have ih := maskG_gone hc' hx
      split
      · exact ih
      · by_cases hut : u = t
        · subst hut; rw [List.getElem?_set_self hl]
        · rw [List.getElem?_set_ne hut]; exact ih

theorem maskG_set : ∀ {cs : List (Nat × Bool)} {env : Env} {t : Nat} {x : TV}, (cs.all fun p => p.1 != t) = true → maskG cs (env.set t x) = (maskG cs env).set t x
  | [], _, _, _, _ => rfl
  | (u, b) :: cs, env, t, x, h => by
    simp only [List.all_cons, Bool.and_eq_true, bne_iff_ne, ne_eq] at h
    unfold maskG
    split
    · exact maskG_set h.2
    · rw [maskG_set h.2, List.set_comm _ _ (fun e => h.1 e.symm)]

theorem maskG_put {cs : List (Nat × Bool)} {env : Env} {d : Option Nat} {x : TV} (h : dstOk cs d = true) : maskG cs (putE env d x) = putE (maskG cs env) d x := by
  cases d with
  | none => rfl
  | some t => exact maskG_set h

theorem maskG_add {cs : List (Nat × Bool)} {env : Env} {d : Option Nat} {x : TV} {g : Bool} (h : dstOk cs d = true) : maskG (addG cs g d) (putE env d x) = putE (maskG cs env) d (if g = true then x else .tup []) := by
  cases d with
  | none => rfl
  | some t =>
    show (if g = true then maskG cs (env.set t x) else (maskG cs (env.set t x)).set t (.tup [])) = (maskG cs env).set t (if g = true then x else .tup [])
    rw [maskG_set h]
    split
    · rfl
    · rw [List.set_set]

theorem okT_rd {cs : List (Nat × Bool)} {g : Bool} {x : Operand} {env : Env} (h : okT cs g x = true) (hg : g = true) : rd (maskG cs env) x = rd env x := by
  subst hg
  cases x with
  | tmp t =>
    simp only [rd]
    refine maskG_get ?_
    simpa [okT] using h
  | _ => rfl

theorem okO_ev {C : Cfg} {cs : List (Nat × Bool)} {g strict : Bool} {o : Oper} {env : Env} {objs : Objs} (h : okO cs g o = true) (hg : g = true) : evOp C strict o (maskG cs env) objs = evOp C strict o env objs := by
  unfold okO at h
  rw [Bool.or_eq_true] at h
  rcases h with h | h
  · have : cs = [] := by simpa using h
    subst this; rfl
  · refine evOp_congr fun x hx => okT_rd (List.all_eq_true.1 h x (by simpa using hx)) hg

theorem rdB_sv {env : Env} {x : Operand} {b : Bool} (h : rdB env x = some b) : rd env x = some (sv (.bool b)) := by
  unfold rdB rdS rd1 at h
  cases hr : rd env x with
  | none => rw [hr] at h; cases h
  | some v =>
    rw [hr] at h
    split at h
    · rename_i v' hv
      split at hv
      · rename_i w hw
        split at hw
        · rename_i c hc
          injection hc with hc
          injection hw with hw
          subst hw
          injection hv with hv
          subst hv
          injection h with h
          subst h
          rw [hc]
          rfl
        · cases hw
      · cases hv
    · cases h

theorem evG_ok {C : Cfg} {cs : List (Nat × Bool)} {g strict : Bool} {o : Oper} {env : Env} {objs objs' : Objs} {v : TV} (h : evG C cs g strict o env objs = some (v, objs')) (hg : g = true) :
    ∃ s, evOp C s o (maskG cs env) objs = some (v, objs') := by
  have gen : ∀ {x : Option (TV × Objs)}, (if okO cs g o = true then evOp C strict o env objs else none) = some (v, objs') → ∃ s, evOp C s o (maskG cs env) objs = some (v, objs') := by
    intro _ hx
    split at hx
    · rename_i hok
      exact ⟨strict, by rw [okO_ev hok hg]; exact hx⟩
    · cases hx
  unfold evG at h
  split at h
  case h_2 => exact gen (x := none) h
  case h_1 c x y hop =>
  split at h
  case h_2 => exact gen (x := none) h
  case h_1 cv a b hc ha hb =>
  split at h
  case isFalse => cases h
  case isTrue hok =>
  simp only [Bool.and_eq_true] at hok
  simp only [Option.some.injEq, Prod.mk.injEq] at h
  obtain ⟨rfl, rfl⟩ := h
  subst hg
  have e1 : rdB (maskG cs env) c = some cv := by
    rw [rdB_congr (okT_rd hok.1.1 rfl)]; exact hc
  refine ⟨true, ?_⟩
  have hbl : evBlind C o (maskG cs env) = some (sv (.bool (bif cv then a else b))) := by
    unfold evBlind
    rw [hop]
    simp only [e1]
    cases cv with
    | true =>
      rw [okT_rd (g := true && true) hok.1.2 rfl, rdB_sv ha]
      rfl
    | false =>
      rw [okT_rd (g := true && !false) hok.2 rfl, rdB_sv hb]
      rfl
  unfold evOp
  rw [hbl]

theorem guardG_ok {ops : Array Oper} {cs : List (Nat × Bool)} {env : Env} {o : Oper} {j : Nat} {v g : Bool} (ho : o.guard = some (j, v)) (h : guardG ops cs env j v = some g) : guardOf ops (maskG cs env) o = some g := by
  unfold guardG at h
  unfold guardOf
  rw [ho]
  simp only
  split at h
  case h_2 => cases h
  case h_1 t ht =>
  split at h
  case h_2 => cases h
  case h_1 c hc =>
  injection h with h
  subst h
  cases ha : (cs.all fun p => p.1 != t || p.2) with
  | true => rw [maskG_get ha, hc]; simp
  | false => rw [maskG_gone ha hc]; simp

theorem evG_strict {C : Cfg} {cs : List (Nat × Bool)} {g : Bool} {o : Oper} {env : Env} {objs objs' : Objs} {v : TV} (h : evG C cs g true o env objs = some (v, objs')) : objs' = objs := by
  unfold evG at h
  split at h
  · split at h
    · split at h
      · simp only [Option.some.injEq, Prod.mk.injEq] at h; exact h.2.symm
      · cases h
    · split at h
      · exact (op_strict h).1
      · cases h
  · split at h
    · exact (op_strict h).1
    · cases h

theorem dropG_len : ∀ (cs : List (Nat × Bool)) (env : Env), (dropG cs env).length = env.length
  | [], _ => rfl
  | p :: cs, env => by
    show ((dropG cs env).set p.1 .unk).length = env.length
    rw [List.length_set]; exact dropG_len cs env
theorem dropG_get : ∀ (cs : List (Nat × Bool)) {env : Env} {t : Nat} {x : TV}, (dropG cs env)[t]? = some x → x = .unk ∨ (maskG cs env)[t]? = some x
  | [], env, t, x, h => .inr h
  | (u, b) :: cs, env, t, x, h => by
    have h' : ((dropG cs env).set u .unk)[t]? = some x := h
    rw [List.getElem?_set] at h'
    by_cases hut : u = t
    · rw [if_pos hut] at h'
      split at h'
      · injection h' with h'; exact .inl h'.symm
      · cases h'
    · rw [if_neg hut] at h'
      rcases dropG_get cs h' with h1 | h1
      · exact .inl h1
      · right
        unfold maskG
        split
        · exact h1
        · rw [List.getElem?_set_ne hut]; exact h1

theorem dropG_ok {Φ : Fz} {θ : Th} {base : Nat} {w : World} {cs : List (Nat × Bool)} {env : Env} {objs : Objs} {tmps : Array Value} (hs : StR Φ θ base w (maskG cs env) objs tmps) : StR Φ θ base w (dropG cs env) objs tmps :=
  ⟨hs.sat, ⟨by rw [dropG_len, ← maskG_len cs env]; exact hs.env.1, fun t x u hx hu => by
    rcases dropG_get cs hx with rfl | h1
    · trivial
    · exact hs.env.2 t x u h1 hu⟩, hs.ob, hs.apart, hs.base⟩

theorem evOpsG_ok {P : Program} {C : Cfg} {base : Nat} (hC : CfgOk P C) (hK : CallsOk P C) {ops : Array Oper} {Q : Exit → Act → World → Prop} : ∀ (os : List Oper) (i : Nat) (cs : List (Nat × Bool)) {Φ : Fz} {θ : Th} {w : World} {env : Env} {objs : Objs} {a : Act} {env' : Env} {objs' : Objs}, os = ops.toList.drop i → StR Φ θ base w (maskG cs env) objs a.tmps →
    evOpsG C ops cs os env objs = some (env', objs') → Thn Φ θ base w objs a env' objs' (Q .normal) → wpOps P ops Q (List.range' i os.length) a w
  | [], i, cs, Φ, θ, w, env, objs, a, env', objs', _, hs, h, hk => by
    simp only [evOpsG, Option.some.injEq, Prod.mk.injEq] at h
    obtain ⟨rfl, rfl⟩ := h
    simp only [List.length_nil, List.range'_zero, wpOps]
    exact hk Φ θ w a (Goes.refl _ _ _ _ _) (dropG_ok hs) rfl
  | o :: os, i, cs, Φ, θ, w, env, objs, a, env', objs', ho, hs, h, hk => by
    have hoi : ops[i]? = some o := by
      have : (ops.toList.drop i)[0]? = some o := by rw [← ho]; rfl
      simpa using this
    have hos : os = ops.toList.drop (i + 1) := by
      have := congrArg List.tail ho
      simpa using this
    simp only [List.length_cons, List.range'_succ, wpOps_cons]
    unfold evOpsG at h
    split at h
    case isFalse => cases h
    case isTrue hd =>
    split at h
    case h_1 hg =>
      obtain ⟨⟨v, objs1⟩, h1, h2⟩ := Option.bind_eq_some_iff.1 h
      obtain ⟨s, h3⟩ := evG_ok h1 rfl
      have hgo : guardOf ops (maskG cs env) o = some true := by unfold guardOf; rw [hg]
      have he : evOne C s ops o (maskG cs env) objs = some (putE (maskG cs env) o.dst v, objs1) := by
        unfold evOne; rw [hgo, h3]
      refine evOne_ok hC hK hoi hs he fun Φ1 θ1 w1 a1 hg1 hs1 hd1 => ?_
      rw [← maskG_put hd] at hs1
      refine evOpsG_ok hC hK os (i + 1) cs hos hs1 h2 fun Φ2 θ2 w2 a2 hg2 hs2 hd2 => ?_
      exact hk Φ2 θ2 w2 a2 (hg1.trans hg2) hs2 (hd2.trans hd1)
    case h_2 j v hg =>
      obtain ⟨g, h1, h2⟩ := Option.bind_eq_some_iff.1 h
      obtain ⟨⟨x, objs1⟩, h3, h4⟩ := Option.bind_eq_some_iff.1 h2
      have hob := evG_strict h3
      subst hob
      have hgo := guardG_ok hg h1
      have he : ∃ s, evOne C s ops o (maskG cs env) objs1 = some (putE (maskG cs env) o.dst (if g = true then x else .tup []), objs1) := by
        cases g with
        | true =>
          obtain ⟨s, h5⟩ := evG_ok h3 rfl
          exact ⟨s, by unfold evOne; rw [hgo, h5]; rfl⟩
        | false => exact ⟨true, by unfold evOne; rw [hgo]; rfl⟩
      obtain ⟨s, he⟩ := he
      refine evOne_ok hC hK hoi hs he fun Φ1 θ1 w1 a1 hg1 hs1 hd1 => ?_
      rw [← maskG_add hd] at hs1
      refine evOpsG_ok hC hK os (i + 1) _ hos hs1 h4 fun Φ2 θ2 w2 a2 hg2 hs2 hd2 => ?_
      exact hk Φ2 θ2 w2 a2 (hg1.trans hg2) hs2 (hd2.trans hd1)

end Go.Vm
