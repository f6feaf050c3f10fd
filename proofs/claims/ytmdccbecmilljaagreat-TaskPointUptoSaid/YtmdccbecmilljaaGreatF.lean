/- The example of layer 16 answers true. -/
import Derived.Test.YtmdccbecmilljaaGreatQ
import Derived.Test.YtmdccbecmilljaaGreatD
import Derived.Test.YtmdccbecmilljaaGreatE

set_option linter.unusedVariables false
set_option linter.unusedSimpArgs false
namespace Go.Vm
open Go Go.RowKit

theorem run_next {σ β : Type} {step : σ → Option (σ ⊕ β)} {s s' : σ} {r : Option β} (h : step s = some (.inl s')) (hr : run step s' = r) : run step s = r := by rw [run_eq, h]; exact hr
theorem run_stop {σ β : Type} {step : σ → Option (σ ⊕ β)} {s : σ} {b : β} (h : step s = some (.inr b)) : run step s = some b := by rw [run_eq, h]

theorem live16 : F_k18 = some true := by
  simp only [F_k18, pk_k18, w_open, v_encode, w_new, Option.bind_some]
  refine obind (r := .inl { e := 0, points := 1, i := 6, o0 := { shards := 1, soft := 0, hard := 1, per := 2, bump := 0, feed := 1, workers := 1, room := 1 }, s_ := vx6, t := vt6, events := [vE] }) ?_ ?_
  · refine run_next (s' := { e := 0, points := 0, i := 1, o0 := { shards := 1, soft := 0, hard := 1, per := 2, bump := 0, feed := 1, workers := 1, room := 1 }, s_ := vx0, t := vt1, events := [] }) ?_ ?_
    · simp only [w_a0, w_f0, Option.bind_some]; rfl
    refine run_next (s' := { e := 0, points := 0, i := 2, o0 := { shards := 1, soft := 0, hard := 1, per := 2, bump := 0, feed := 1, workers := 1, room := 1 }, s_ := vx2, t := vt2, events := [] }) ?_ ?_
    · simp only [w_a1, w_f1, Option.bind_some]; rfl
    refine run_next (s' := { e := 0, points := 0, i := 3, o0 := { shards := 1, soft := 0, hard := 1, per := 2, bump := 0, feed := 1, workers := 1, room := 1 }, s_ := vx2, t := vt3, events := [] }) ?_ ?_
    · simp only [w_a2, w_f2, Option.bind_some]; rfl
    refine run_next (s' := { e := 0, points := 1, i := 4, o0 := { shards := 1, soft := 0, hard := 1, per := 2, bump := 0, feed := 1, workers := 1, room := 1 }, s_ := vx4, t := vt4, events := [vE] }) ?_ ?_
    · simp only [w_a3, w_f3, Option.bind_some]; rfl
    refine run_next (s' := { e := 0, points := 1, i := 5, o0 := { shards := 1, soft := 0, hard := 1, per := 2, bump := 0, feed := 1, workers := 1, room := 1 }, s_ := vx5, t := vt5, events := [vE] }) ?_ ?_
    · simp only [w_a4, w_f4, Option.bind_some]; rfl
    refine run_next (s' := { e := 0, points := 1, i := 6, o0 := { shards := 1, soft := 0, hard := 1, per := 2, bump := 0, feed := 1, workers := 1, room := 1 }, s_ := vx6, t := vt6, events := [vE] }) ?_ ?_
    · simp only [w_a5, w_f5, Option.bind_some]; rfl
    refine run_stop ?_
    rfl
  · simp only [selim, w_newb, w_fb, w_a6, w_m, Option.bind_some]
    rfl

end Go.Vm

/- Why TaskPoint answers true. -/
set_option linter.unusedVariables false
set_option linter.unusedSimpArgs false
namespace Go.Vm
open Go Go.RowKit

theorem run_for {σ β α : Type} {step : σ → Option (σ ⊕ β)} (S : Nat → α → σ) (J : α → Prop) (N : Nat) (hs : ∀ i a, i < N → J a → ∃ a', J a' ∧ step (S i a) = some (.inl (S (i + 1) a'))) :
    ∀ (n i : Nat) (a : α), i + n = N → J a → ∃ a', J a' ∧ run step (S i a) = run step (S N a')
  | 0, i, a, h, ha => ⟨a, ha, by rw [show i = N from by omega]⟩
  | n + 1, i, a, h, ha => by
    obtain ⟨a', h1, h2⟩ := hs i a (by omega) ha
    obtain ⟨a'', h3, h4⟩ := run_for S J N hs n (i + 1) a' (by omega) h1
    exact ⟨a'', h3, by rw [run_next h2 rfl, h4]⟩

theorem for_bind {σ β α δ : Type} {step : σ → Option (σ ⊕ β)} {s0 : σ} {g : β → Option δ} {r : Option δ} (S : Nat → α → σ) (J : α → Prop) (N : Nat) (a0 : α) (h0 : s0 = S 0 a0) (hJ : J a0)
    (hs : ∀ i a, i < N → J a → ∃ a', J a' ∧ step (S i a) = some (.inl (S (i + 1) a'))) (he : ∀ a, J a → ∃ b, step (S N a) = some (.inr b) ∧ g b = r) : (run step s0).bind g = r := by
  obtain ⟨a', h1, h2⟩ := run_for S J N hs N 0 a0 (by omega) hJ
  obtain ⟨b, h3, h4⟩ := he a' h1
  rw [h0, h2, run_stop h3]
  exact h4

theorem step_told {o : Op} {t : Task} {who : Int} {x : Sight} (h : TInv o t x) (hw : 1 ≤ who) (hd : o.data.size ≤ 1048576) :
    ∃ u y e p, F_k86 t who x = some (u, y, e, p) ∧ TInv o u y ∧ Stp t who x (u, y, e, p) := by
  obtain ⟨h1, h2⟩ := step_all h hw
  exact ⟨_, _, _, _, p_task_Step h hd, h1, h2⟩

structure PJ (o : Op) (s : Sight) (a : Task × Sight × Result) : Prop where
  inv : TInv o a.1 a.2.1
  cfg : a.2.1.config = s.config
  res : a.1.point = true → a.1.result = a.2.2
  ahead : a.1.point = false → a.2.1.pot = s.pot ∧ a.2.1.shards = s.shards

def pS (o : Op) (who : Int) (s : Sight) (i : Nat) (a : Task × Sight × Result) : L_k15_0 := { who := who, i := (i : Int), o0 := o, s_ := s, t := a.1, x := a.2.1, r := a.2.2 }

theorem sh_few {o : Op} {t : Task} {x : Sight} (h : TInv o t x) : Short t.result.txs := by have := h.fewR; simp only [Short]; omega

theorem point_true (o : Op) (who : Int) (s : Sight) (b0 : o.data.size ≤ 1048576) (hX : ShX s) : F_k15 o who s = some true := by
  obtain ⟨sm, hsm⟩ := p_r16_Small s hX
  simp only [F_k15, pk_k15, hsm, p_r16_May s hX, Option.bind_some, live16, v_new, p_law16_OwnSight s hX]
  have T1 : (sm = false ∨ (500 : Int) < (o.data.size : Int)) ∨ sm = true ∧ (o.data.size : Int) ≤ 500 := by
    cases sm
    · simp
    · simp; omega
  have T2 : ((sm = false ∨ (500 : Int) < (o.data.size : Int)) ∨ sMay s = false) ∨ (sm = true ∧ (o.data.size : Int) ≤ 500) ∧ sMay s = true := by
    rcases T1 with h | h
    · exact .inl (.inl h)
    · cases hm : sMay s
      · exact .inl (.inr rfl)
      · exact .inr ⟨h, rfl⟩
  rw [if_pos T1, if_pos T1, if_pos T1, if_pos T2, if_pos T2]
  by_cases hg : ((sm = false ∨ (500 : Int) < (o.data.size : Int)) ∨ sMay s = false) ∨ who < 1
  · rw [if_pos hg]
  rw [if_neg hg]
  have hm : MayS s := may_spec.1 (by
    cases hm : sMay s
    · exact absurd (.inl (.inr hm)) hg
    · rfl)
  have hw : 1 ≤ who := by
    by_cases h : who < 1
    · exact absurd (.inr h) hg
    · omega
  have hJ0 : PJ o s (vNew o, s, zRes) := ⟨tinv_new o hm, rfl, fun h => (by cases h), fun _ => ⟨rfl, rfl⟩⟩
  have hround : ∀ i a, i < 8 → PJ o s a → ∃ a', PJ o s a' ∧ ∃ u y e p, F_k86 a.1 who a.2.1 = some (u, y, e, p) ∧ TInv o u y ∧ Stp a.1 who a.2.1 (u, y, e, p) ∧ a' = (u, y, if p = true then u.result else a.2.2) := by
    intro i a hi ha
    obtain ⟨u, y, e, p, h1, h2, h3⟩ := step_told ha.inv hw b0
    refine ⟨_, ⟨h2, h3.cfg.trans ha.cfg, fun hp => ?_, fun hp => ?_⟩, u, y, e, p, h1, h2, h3, rfl⟩
    · cases p with
      | true => rfl
      | false =>
        have := h3.pt
        simp only [Bool.or_false] at this
        have ht : a.1.point = true := by rw [← this]; exact hp
        exact (h3.res ht).trans (ha.res ht)
    · have := h3.pt
      have ht : a.1.point = false := by
        have h4 : u.point = false := hp
        simp only at this
        rw [h4] at this
        cases ht : a.1.point
        · rfl
        · rw [ht] at this; simp at this
      obtain ⟨g1, g2⟩ := h3.ahead hp
      obtain ⟨g3, g4⟩ := ha.ahead ht
      exact ⟨g1.trans g3, g2.trans g4⟩
  refine for_bind (pS o who s) (PJ o s) 8 (vNew o, s, zRes) rfl hJ0 ?_ ?_
  · intro i a hi ha
    obtain ⟨a', hJ', u, y, e, p, h1, h2, h3, rfl⟩ := hround i a hi ha
    refine ⟨_, hJ', ?_⟩
    have hwr : IntKind.i64.wrap ((i : Int) + 1) = ((i + 1 : Nat) : Int) := wrap_add1 i (by omega)
    have hi8 : (i : Int) < 8 := by omega
    have hpt := h3.pt
    have hev := h3.evs
    have hon := h3.once
    have hyX := may_sh h2.may
    have hT := p_law16_ToldSight y hyX
    have hS1 := p_r13_Same u.result (sh_few h2)
    obtain ⟨b2, hS2⟩ := t_r13_Same u.result a.2.2 (sh_few h2)
    obtain ⟨b3, hS3⟩ := t_r16_SameSight { config := y.config, locks := s.locks, pot := y.pot, shards := y.shards } s ⟨hX.1, hyX.2.1, hyX.2.2⟩
    have hz : u.point = false → b3 = true := by
      intro hu
      obtain ⟨g1, g2⟩ := hJ'.ahead hu
      have g3 := hJ'.cfg
      simp only at g1 g2 g3
      rw [g1, g2, g3] at hS3
      rw [p_r16_SameSight s hX] at hS3
      injection hS3 with hS3
      exact hS3.symm
    have hr2 : p = false → u.point = true → b2 = true := by
      intro hp hu
      have := hJ'.res hu
      rw [hp] at this
      simp only [Bool.false_eq_true, if_false] at this
      rw [← this, hS1] at hS2
      injection hS2 with hS2
      exact hS2.symm
    simp only at hpt hev hon
    unfold pS
    simp only [h1, Option.bind_some, hi8, if_true, hT, hS1, hS2, hS3, hwr]
    cases p with
    | true =>
      have htp := hon rfl
      rw [htp] at hpt
      simp only [Bool.false_or] at hpt
      cases e with
      | nil => simp [htp, hpt]; try rfl
      | cons e0 e1 => simp [htp, hpt]; try rfl
    | false =>
      cases e with
      | cons e0 e1 => exact absurd (hev (by simp)) (by simp)
      | nil =>
        simp only [Bool.or_false] at hpt
        cases htp : a.1.point with
        | true =>
          rw [htp] at hpt
          have := hr2 rfl hpt
          subst this
          simp [htp, hpt]; try rfl
        | false =>
          rw [htp] at hpt
          have := hz hpt
          subst this
          simp [htp, hpt]; try rfl
  · intro a ha
    refine ⟨_, by unfold pS; simp; try rfl, rfl⟩

end Go.Vm
