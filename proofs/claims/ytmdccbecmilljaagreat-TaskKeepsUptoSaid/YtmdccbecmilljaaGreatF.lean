/- The example of layer 16 answers true. -/
import Derived.Test.YtmdccbecmilljaaGreatQ
import Derived.Test.YtmdccbecmilljaaGreatD
import Derived.Test.YtmdccbecmilljaaGreatE

set_option linter.unusedVariables false
set_option linter.unusedSimpArgs false
namespace Go.Vm
open Go Go.RowKit

theorem run_next {σ β : Type} {step : σ → Option (σ ⊕ β)} {s s' : σ} {r : Option β} (h : step s = some (.inl s')) (hr : run step s' = r) : run step s = r := by rw [run_eq, h]; exact hr
theorem run_stop {σ β : Type} {step : σ → Option (σ ⊕ β)} {s : σ} {b : β} (h : step s = some (.inr b)) : run step s = some b := by rw [run_eq, h]

theorem live16 : F_k18 = some true := by
  simp only [F_k18, pk_k18, w_open, v_encode, w_new, Option.bind_some]
  refine obind (r := .inl { e := 0, points := 1, i := 6, o0 := { shards := 1, soft := 0, hard := 1, per := 2, bump := 0, feed := 1, workers := 1, room := 1 }, s_ := vx6, t := vt6, events := [vE] }) ?_ ?_
  · refine run_next (s' := { e := 0, points := 0, i := 1, o0 := { shards := 1, soft := 0, hard := 1, per := 2, bump := 0, feed := 1, workers := 1, room := 1 }, s_ := vx0, t := vt1, events := [] }) ?_ ?_
    · simp only [w_a0, w_f0, Option.bind_some]; rfl
    refine run_next (s' := { e := 0, points := 0, i := 2, o0 := { shards := 1, soft := 0, hard := 1, per := 2, bump := 0, feed := 1, workers := 1, room := 1 }, s_ := vx2, t := vt2, events := [] }) ?_ ?_
    · simp only [w_a1, w_f1, Option.bind_some]; rfl
    refine run_next (s' := { e := 0, points := 0, i := 3, o0 := { shards := 1, soft := 0, hard := 1, per := 2, bump := 0, feed := 1, workers := 1, room := 1 }, s_ := vx2, t := vt3, events := [] }) ?_ ?_
    · simp only [w_a2, w_f2, Option.bind_some]; rfl
    refine run_next (s' := { e := 0, points := 1, i := 4, o0 := { shards := 1, soft := 0, hard := 1, per := 2, bump := 0, feed := 1, workers := 1, room := 1 }, s_ := vx4, t := vt4, events := [vE] }) ?_ ?_
    · simp only [w_a3, w_f3, Option.bind_some]; rfl
    refine run_next (s' := { e := 0, points := 1, i := 5, o0 := { shards := 1, soft := 0, hard := 1, per := 2, bump := 0, feed := 1, workers := 1, room := 1 }, s_ := vx5, t := vt5, events := [vE] }) ?_ ?_
    · simp only [w_a4, w_f4, Option.bind_some]; rfl
    refine run_next (s' := { e := 0, points := 1, i := 6, o0 := { shards := 1, soft := 0, hard := 1, per := 2, bump := 0, feed := 1, workers := 1, room := 1 }, s_ := vx6, t := vt6, events := [vE] }) ?_ ?_
    · simp only [w_a5, w_f5, Option.bind_some]; rfl
    refine run_stop ?_
    rfl
  · simp only [selim, w_newb, w_fb, w_a6, w_m, Option.bind_some]
    rfl

end Go.Vm

/- Why TaskKeeps answers true. -/
set_option linter.unusedVariables false
set_option linter.unusedSimpArgs false
namespace Go.Vm
open Go Go.RowKit

theorem run_for {σ β α : Type} {step : σ → Option (σ ⊕ β)} (S : Nat → α → σ) (J : α → Prop) (N : Nat) (hs : ∀ i a, i < N → J a → ∃ a', J a' ∧ step (S i a) = some (.inl (S (i + 1) a'))) :
    ∀ (n i : Nat) (a : α), i + n = N → J a → ∃ a', J a' ∧ run step (S i a) = run step (S N a')
  | 0, i, a, h, ha => ⟨a, ha, by rw [show i = N from by omega]⟩
  | n + 1, i, a, h, ha => by
    obtain ⟨a', h1, h2⟩ := hs i a (by omega) ha
    obtain ⟨a'', h3, h4⟩ := run_for S J N hs n (i + 1) a' (by omega) h1
    exact ⟨a'', h3, by rw [run_next h2 rfl, h4]⟩

theorem for_bind {σ β α δ : Type} {step : σ → Option (σ ⊕ β)} {s0 : σ} {g : β → Option δ} {r : Option δ} (S : Nat → α → σ) (J : α → Prop) (N : Nat) (a0 : α) (h0 : s0 = S 0 a0) (hJ : J a0)
    (hs : ∀ i a, i < N → J a → ∃ a', J a' ∧ step (S i a) = some (.inl (S (i + 1) a'))) (he : ∀ a, J a → ∃ b, step (S N a) = some (.inr b) ∧ g b = r) : (run step s0).bind g = r := by
  obtain ⟨a', h1, h2⟩ := run_for S J N hs N 0 a0 (by omega) hJ
  obtain ⟨b, h3, h4⟩ := he a' h1
  rw [h0, h2, run_stop h3]
  exact h4

theorem step_told {o : Op} {t : Task} {who : Int} {x : Sight} (h : TInv o t x) (hw : 1 ≤ who) (hd : o.data.size ≤ 1048576) :
    ∃ u y e p, F_k86 t who x = some (u, y, e, p) ∧ TInv o u y ∧ Stp t who x (u, y, e, p) := by
  obtain ⟨h1, h2⟩ := step_all h hw
  exact ⟨_, _, _, _, p_task_Step h hd, h1, h2⟩

def KJ (o : Op) (a : Task × Sight) : Prop := TInv o a.1 a.2

def kS (o : Op) (c1 c2 : Int) (s : Sight) (i : Nat) (a : Task × Sight) : L_k14_0 := { who := c1, steps := c2, i := (i : Int), o0 := o, c1 := c1, c2 := c2, o2 := s, t := a.1, x := a.2 }

structure LkOk (who : Int) (x y : Sight) (k : Nat) : Prop where
  ex : ∃ v w p q, x.locks[k]? = some v ∧ y.locks[k]? = some w ∧ x.shards[k]? = some p ∧ y.shards[k]? = some q ∧ (w = v ∨ (v = who ∧ w = 0) ∨ (v = 0 ∧ w = who)) ∧ ∃ b, F_k58 p q = some b ∧ (b = false → v = who)

theorem lk_ok {t : Task} {who : Int} {x : Sight} {r : Task × Sight × List Event × Bool} (h : Stp t who x r) (hm : MayS x) (hy : MayS r.2.1) {k : Nat} (hk : k < r.2.1.locks.length) : LkOk who x r.2.1 k := by
  have h1 := h.llen; have h2 := h.slen
  have h3 := hm.llen; have h4 := hm.slen
  have kx : k < x.locks.length := by omega
  have ks : k < x.shards.length := by omega
  have ky : k < r.2.1.shards.length := by omega
  have sx : ShS x.shards[k] := (may_sh hm).2.2 _ (List.getElem_mem ks)
  refine ⟨x.locks[k], r.2.1.locks[k], x.shards[k], r.2.1.shards[k], List.getElem?_eq_getElem kx, List.getElem?_eq_getElem hk, List.getElem?_eq_getElem ks, List.getElem?_eq_getElem ky,
    h.locks k _ _ (List.getElem?_eq_getElem kx) (List.getElem?_eq_getElem hk), ?_⟩
  obtain ⟨b, hb⟩ := t_r11_Same x.shards[k] r.2.1.shards[k] sx
  refine ⟨b, hb, fun e => ?_⟩
  by_cases he : r.2.1.shards[k]? = x.shards[k]?
  · rw [List.getElem?_eq_getElem ky, List.getElem?_eq_getElem ks] at he
    injection he with he
    rw [he, p_r11_Same _ sx] at hb
    injection hb with hb
    rw [← hb] at e; cases e
  · have := h.shards k he
    rw [List.getElem?_eq_getElem kx] at this
    injection this

theorem keeps_true (x0 : Op) (x1 : Int × Int) (x2 : Sight) (b0 : x0.data.size ≤ 1048576) (hX : ShX x2) : F_k14 x0 x1 x2 = some true := by
  obtain ⟨sm, hsm⟩ := p_r16_Small x2 hX
  obtain ⟨c1, c2⟩ := x1
  simp only [F_k14, pk_k14, hsm, p_r16_May x2 hX, Option.bind_some, live16, v_new, p_law16_OwnSight x2 hX]
  have T1 : (sm = false ∨ (500 : Int) < (x0.data.size : Int)) ∨ sm = true ∧ (x0.data.size : Int) ≤ 500 := by
    cases sm
    · simp
    · simp; omega
  have T2 : ((sm = false ∨ (500 : Int) < (x0.data.size : Int)) ∨ sMay x2 = false) ∨ (sm = true ∧ (x0.data.size : Int) ≤ 500) ∧ sMay x2 = true := by
    rcases T1 with h | h
    · exact .inl (.inl h)
    · cases hm : sMay x2
      · exact .inl (.inr rfl)
      · exact .inr ⟨h, rfl⟩
  have T3 : (((sm = false ∨ (500 : Int) < (x0.data.size : Int)) ∨ sMay x2 = false) ∨ c1 < 1) ∨ ((sm = true ∧ (x0.data.size : Int) ≤ 500) ∧ sMay x2 = true) ∧ 1 ≤ c1 := by
    rcases T2 with h | h
    · exact .inl (.inl h)
    · by_cases hc : c1 < 1
      · exact .inl (.inr hc)
      · exact .inr ⟨h, by omega⟩
  have T4 : ((((sm = false ∨ (500 : Int) < (x0.data.size : Int)) ∨ sMay x2 = false) ∨ c1 < 1) ∨ c2 < 0) ∨ (((sm = true ∧ (x0.data.size : Int) ≤ 500) ∧ sMay x2 = true) ∧ 1 ≤ c1) ∧ 0 ≤ c2 := by
    rcases T3 with h | h
    · exact .inl (.inl h)
    · by_cases hc : c2 < 0
      · exact .inl (.inr hc)
      · exact .inr ⟨h, by omega⟩
  rw [if_pos T1, if_pos T1, if_pos T1, if_pos T2, if_pos T2, if_pos T3, if_pos T3, if_pos T4, if_pos T4]
  by_cases hg : ((((sm = false ∨ (500 : Int) < (x0.data.size : Int)) ∨ sMay x2 = false) ∨ c1 < 1) ∨ c2 < 0) ∨ 8 < c2
  · rw [if_pos hg]
  rw [if_neg hg]
  simp only [not_or] at hg
  obtain ⟨⟨⟨⟨_, hm0⟩, hw0⟩, hc0⟩, hc8⟩ := hg
  have hm : MayS x2 := may_spec.1 (by simpa using hm0)
  have hw : 1 ≤ c1 := by omega
  obtain ⟨n, rfl⟩ : ∃ n : Nat, c2 = (n : Int) := ⟨c2.toNat, by omega⟩
  refine for_bind (kS x0 c1 n x2) (KJ x0) n (vNew x0, x2) rfl (tinv_new x0 hm) ?_ ?_
  · intro i a hi ha
    obtain ⟨u, y, e, p, h1, h2, h3⟩ := step_told ha hw b0
    refine ⟨(u, y), h2, ?_⟩
    have hwr : IntKind.i64.wrap ((i : Int) + 1) = ((i + 1 : Nat) : Int) := wrap_add1 i (by omega)
    have hin : (i : Int) < (n : Int) := by omega
    have hxX := may_sh ha.may
    have hyX := may_sh h2.may
    have hab := p_task_Able a.1 c1 a.2 hxX
    have hmy : sMay y = true := may_spec.2 h2.may
    have hll : (y.locks.length : Int) = (a.2.locks.length : Int) := by have := h3.llen; simp only at this; omega
    unfold kS
    simp only [h1, hab, Option.bind_some, hin, if_true, p_law16_ToldSight _ hxX, p_law16_ToldSight _ hyX, p_r16_May _ hyX, hmy, Bool.true_eq_false, if_false, hll, p_law16_Told]
    have body : ∀ k, k < y.locks.length → LkOk c1 a.2 y k := fun k hk => lk_ok h3 ha.may h2.may hk
    have hlen : y.locks.length ≤ 1048576 := hyX.1
    cases hA : sAble a.1 c1 a.2 with
    | false =>
      have hst := h3.still hA
      simp only [Prod.mk.injEq] at hst
      obtain ⟨rfl, rfl, rfl, rfl⟩ := hst
      simp only [if_true, if_false, Bool.false_eq_true, Bool.true_eq_false, List.length_nil, Nat.lt_irrefl, p_r16_SameSight _ hxX, p_r16_Same _ ha.fewA ha.fewE ha.fewP ha.fewR, Option.bind_some]
      refine for_bind (fun k _ => { who := c1, steps := (n : Int), i := (i : Int), k := ((k : Nat) : Int), o0 := x0, c1 := c1, c2 := (n : Int), o2 := x2, t := a.1, x := a.2, u := a.1, y := a.2, was := a.2, now := a.2 }) (fun _ : Unit => True) a.2.locks.length () rfl trivial ?_ ?_
      · intro k _ hk _
        refine ⟨(), trivial, ?_⟩
        obtain ⟨v, w, q1, q2, e1, e2, e3, e4, e5, bb, e6, e7⟩ := (body k hk).ex
        obtain rfl : w = v := by rw [e1] at e2; exact (Option.some.inj e2).symm
        obtain rfl : q2 = q1 := by rw [e3] at e4; exact (Option.some.inj e4).symm
        have g1 : ((k : Nat) : Int) < (a.2.locks.length : Int) := by omega
        have g2 : (0 : Int) ≤ (k : Int) := by omega
        have g3 : ((k : Nat) : Int).toNat = k := by simp
        have g4 : IntKind.i64.wrap ((k : Int) + 1) = ((k + 1 : Nat) : Int) := wrap_add1 k (by omega)
        simp only [g1, g2, g3, g4, e1, e2, e3, e4, e6, Option.bind_some, if_true]
        have n1 : ¬ c1 = 0 := by omega
        have n2 : ¬ (0 : Int) = c1 := by omega
        cases bb with
        | true => simp
        | false => have := e7 rfl; subst this; simp
      · intro _ _
        refine ⟨_, by simp; try rfl, ?_⟩
        simp only [selim, hwr]
        try rfl
    | true =>
      simp only [Bool.true_eq_false, if_false]
      refine for_bind (fun k _ => { who := c1, steps := (n : Int), i := (i : Int), k := ((k : Nat) : Int), o0 := x0, c1 := c1, c2 := (n : Int), o2 := x2, t := a.1, x := a.2, u := u, y := y, was := a.2, now := y }) (fun _ : Unit => True) y.locks.length () rfl trivial ?_ ?_
      · intro k _ hk _
        refine ⟨(), trivial, ?_⟩
        obtain ⟨v, w, q1, q2, e1, e2, e3, e4, e5, bb, e6, e7⟩ := (body k hk).ex
        have g1 : ((k : Nat) : Int) < (y.locks.length : Int) := by omega
        have g2 : (0 : Int) ≤ (k : Int) := by omega
        have g3 : ((k : Nat) : Int).toNat = k := by simp
        have g4 : IntKind.i64.wrap ((k : Int) + 1) = ((k + 1 : Nat) : Int) := wrap_add1 k (by omega)
        simp only [g1, g2, g3, g4, e1, e2, e3, e4, e6, Option.bind_some, if_true]
        have n1 : ¬ c1 = 0 := by omega
        have n2 : ¬ (0 : Int) = c1 := by omega
        rcases e5 with rfl | ⟨rfl, rfl⟩ | ⟨rfl, rfl⟩
        · cases bb with
          | true => simp
          | false => have := e7 rfl; subst this; simp
        · cases bb <;> simp [n1, n2]
        · cases bb with
          | true => simp [n1, n2]
          | false => exact absurd (e7 rfl) n2
      · intro _ _
        refine ⟨_, by simp; try rfl, ?_⟩
        simp only [selim, hwr]
        try rfl
  · intro a ha
    refine ⟨_, by unfold kS; simp; try rfl, rfl⟩

end Go.Vm
