/- Loops over lists, as functions on lists. -/
import Derived.Test.YtaidpcnnggknnaaGreatVd
import Derived.Test.YtaidpcnnggknnaaGreatWa
import Derived.Test.YtaidpcnnggknnaaGreatWc
import Derived.Lib.EndianBits

set_option linter.unusedVariables false
set_option linter.unusedSimpArgs false
namespace Go.Vm
open Go Go.RowKit

def loopL {α γ β : Type} (f : Nat → γ → α → Option (γ ⊕ β)) (fin : γ → Option β) : Nat → γ → List α → Option β
  | _, c, [] => fin c
  | i, c, a :: l => match f i c a with
    | some (.inl c') => loopL f fin (i + 1) c' l
    | some (.inr r) => some r
    | none => none

theorem run_list {α γ β σ : Type} {step : σ → Option (σ ⊕ β)} (L : List α) (st : Nat → γ → σ) (f : Nat → γ → α → Option (γ ⊕ β)) (fin : γ → Option β)
    (hs : ∀ i c a, L[i]? = some a → step (st i c) = match f i c a with | some (.inl c') => some (.inl (st (i + 1) c')) | some (.inr r) => some (.inr r) | none => none)
    (he : ∀ c, step (st L.length c) = (fin c).map .inr) : ∀ (l : List α) (i : Nat) (c : γ), i ≤ L.length → L.drop i = l → run step (st i c) = loopL f fin i c l
  | [], i, c, hil, h => by
    have hi : L.length ≤ i := List.drop_eq_nil_iff.1 h
    obtain rfl : i = L.length := by omega
    rw [run_eq, he, loopL]
    cases fin c <;> rfl
  | a :: l, i, c, hil, h => by
    have ha : L[i]? = some a := by
      have := congrArg (·[0]?) h
      simpa using this
    have hd : L.drop (i + 1) = l := by
      have := congrArg List.tail h
      simpa using this
    rw [run_eq, hs i c a ha, loopL]
    cases hf : f i c a with
    | none => rfl
    | some x => cases x with
      | inl c' => exact run_list L st f fin hs he l (i + 1) c' (List.getElem?_eq_some_iff.1 ha).1 hd
      | inr r => rfl

theorem run_plain {α γ β σ : Type} {step : σ → Option (σ ⊕ β)} {s0 : σ} {r : Option β} (L : List α) (st : Nat → γ → σ) (f : Nat → γ → α → Option (γ ⊕ β)) (fin : γ → Option β) (c0 : γ) (h0 : s0 = st 0 c0)
    (hs : ∀ i c a, L[i]? = some a → step (st i c) = match f i c a with | some (.inl c') => some (.inl (st (i + 1) c')) | some (.inr r) => some (.inr r) | none => none)
    (he : ∀ c, step (st L.length c) = (fin c).map .inr) (hr : loopL f fin 0 c0 L = r) : run step s0 = r := by
  rw [h0, run_list L st f fin hs he L 0 c0 (Nat.zero_le _) rfl, hr]

theorem run_bind {α γ β σ δ : Type} {step : σ → Option (σ ⊕ β)} {s0 : σ} {g : β → Option δ} {r : Option δ} (L : List α) (st : Nat → γ → σ) (f : Nat → γ → α → Option (γ ⊕ β)) (fin : γ → Option β) (c0 : γ) (h0 : s0 = st 0 c0)
    (hs : ∀ i c a, L[i]? = some a → step (st i c) = match f i c a with | some (.inl c') => some (.inl (st (i + 1) c')) | some (.inr r) => some (.inr r) | none => none)
    (he : ∀ c, step (st L.length c) = (fin c).map .inr) (hr : (loopL f fin 0 c0 L).bind g = r) : (run step s0).bind g = r := by
  rw [run_plain L st f fin c0 h0 hs he rfl, hr]

theorem at_ {α : Type} {L : List α} {i : Nat} {a : α} (h : L[i]? = some a) (hl : L.length ≤ 1099511627776) :
    ((i : Int) < (L.length : Int)) ∧ (0 ≤ (i : Int)) ∧ ((i : Int).toNat = i) ∧ IntKind.i64.wrap ((i : Int) + 1) = ((i + 1 : Nat) : Int) := by
  have := (List.getElem?_eq_some_iff.1 h).1
  exact ⟨by omega, by omega, by simp, wrap_add1 i (by omega)⟩

def zTx : Tx := { sender := 0, nonce := 0, tip := 0, cap := 0, gas := 0, data := ByteArray.empty }

end Go.Vm

/- What the functions of layers 1, 4, 5 come to, program's and document's alike: plain laws. -/
set_option linter.unusedVariables false
set_option linter.unusedSimpArgs false
namespace Go.Vm
open Go Go.RowKit

abbrev Short {α : Type} (l : List α) : Prop := l.length ≤ 1099511627776

def sTx (t : Tx) : Bool := decide (0 ≤ t.sender ∧ t.sender ≤ 255 ∧ 0 ≤ t.nonce ∧ t.nonce ≤ 4294967295 ∧ 0 ≤ t.tip ∧ t.tip ≤ 1099511627776 ∧ t.tip ≤ t.cap ∧ t.cap ≤ 1099511627776 ∧ 1 ≤ t.gas ∧ t.gas ≤ 1073741824 ∧ t.data.size ≤ 256)

theorem p_r04_Check (t : Tx) : F_k66 t = some (sTx t) := by
  simp only [F_k66, pk_k66, sTx]
  repeat' split
  all_goals simp only [Option.some.injEq, Bool.false_eq, decide_eq_false_iff_not, decide_eq_decide]
  all_goals omega

theorem p_txn_in (n a b : Int) : F_kd2 n a b = some (decide (a ≤ n ∧ n ≤ b)) := by
  simp only [F_kd2, pk_kd2]
  repeat' split
  all_goals simp
  all_goals omega

theorem p_queue_in (n a b : Int) : F_k59 n a b = some (decide (a ≤ n ∧ n ≤ b)) := by
  simp only [F_k59, pk_k59]
  repeat' split
  all_goals simp
  all_goals omega

theorem p_txn_Check (t : Tx) : F_kce t = some (sTx t) := by
  simp only [F_kce, pk_kce, sTx, p_txn_in, Option.bind_some]
  repeat' split
  all_goals simp only [decide_eq_true_eq, Bool.not_eq_true, decide_eq_false_iff_not] at *
  all_goals simp only [Option.some.injEq, Bool.false_eq, decide_eq_false_iff_not, decide_eq_decide]
  all_goals omega

def sFind (l : List Tx) (n : Int) : Tx × Bool := match l.find? (fun t => decide (t.nonce = n)) with
  | some t => (t, true)
  | none => (zTx, false)

theorem p_r05_Find (a : Acc) (n : Int) (hl : Short a.txs) : F_k70 a n = some (sFind a.txs n) := by
  simp only [F_k70, pk_k70]
  refine run_bind (γ := Unit) a.txs (fun i _ => ⟨n, i, a, zTx⟩) (fun i _ t => if t.nonce = n then some (.inr (.inr (t, true))) else some (.inl ())) (fun _ => some (.inl ⟨n, a.txs.length, a, zTx⟩)) () rfl ?_ ?_ ?_
  · intro i c t ht
    obtain ⟨h1, h2, h3, h4⟩ := at_ ht hl
    simp only [h1, h2, h3, h4, ht, if_true, Option.bind_some]
    split <;> rfl
  · intro c; simp
  · have key : ∀ (l : List Tx) (i : Nat), (loopL (γ := Unit) (fun i _ t => if t.nonce = n then some (.inr (.inr (t, true))) else some (.inl ())) (fun _ => some (.inl (⟨n, a.txs.length, a, zTx⟩ : L_k70_0))) i () l).bind (selim (fun s => some (zTx, false)) fun r => some r) = some (sFind l n) := by
      intro l
      induction l with
      | nil => intro i; rfl
      | cons t l ih =>
        intro i
        unfold loopL sFind
        by_cases h : t.nonce = n
        · simp [h, selim]
        · simpa [h, sFind] using ih (i + 1)
    exact key a.txs 0

def sPl (n : Int) : Nat → Option Nat → List Tx → Nat × Bool
  | i, b, [] => (b.getD i, false)
  | i, b, t :: l => if t.nonce = n then (i, true) else if n < t.nonce ∧ b = none then sPl n (i + 1) (some i) l else sPl n (i + 1) b l

theorem p_queue_place (l : List Tx) (n : Int) (hl : Short l) : F_k5a l n = some (((sPl n 0 none l).1 : Int), (sPl n 0 none l).2) := by
  simp only [F_k5a, pk_k5a]
  refine run_plain (γ := Option {b : Nat // b < l.length}) l (fun i b => ⟨l, n, i, ((b.map (·.1)).getD l.length : Nat)⟩) (fun i b t => if t.nonce = n then some (.inr ((i : Int), true)) else if h : n < t.nonce ∧ b = none ∧ i < l.length then some (.inl (some ⟨i, h.2.2⟩)) else some (.inl b)) (fun b => some (((b.map (·.1)).getD l.length : Nat), false)) none rfl ?_ ?_ ?_
  · intro i b t ht
    obtain ⟨h1, h2, h3, h4⟩ := at_ ht hl
    have h5 : ¬ ((i : Int) = (l.length : Int)) := by omega
    have h6 : i < l.length := by omega
    simp only [h1, h2, h3, h4, h5, ht, if_true, if_false, Option.bind_some, h6, and_true]
    by_cases h : t.nonce = n
    · simp [h]
    · simp only [h, if_false]
      by_cases hn : n < t.nonce
      · cases b with
        | none => simp [hn]
        | some b =>
          have := b.2
          have h7 : ¬ ((b.1 : Int) = (l.length : Int)) := by omega
          simp [hn, h7]
      · simp [hn]
  · intro b; simp
  · have key : ∀ (m : List Tx) (i : Nat) (b : Option {b : Nat // b < l.length}), i + m.length = l.length → loopL (fun i b t => if t.nonce = n then some (.inr ((i : Int), true)) else if h : n < t.nonce ∧ b = none ∧ i < l.length then some (.inl (some ⟨i, h.2.2⟩)) else some (.inl b)) (fun b => some (((b.map (·.1)).getD l.length : Nat), false)) i b m = some (((sPl n i (b.map (·.1)) m).1 : Int), (sPl n i (b.map (·.1)) m).2) := by
      intro m
      induction m with
      | nil => intro i b h; simp at h; subst h; rfl
      | cons t m ih =>
        intro i b h
        unfold loopL sPl
        simp only [List.length_cons] at h
        by_cases h1 : t.nonce = n
        · simp [h1]
        · by_cases h2 : n < t.nonce ∧ b = none
          · obtain ⟨h2, rfl⟩ := h2
            simp only [h1, if_false, h2, true_and, dif_pos (show i < l.length by omega)]
            rw [ih (i + 1) _ (by omega)]
            simp
          · have h3 : ¬ (n < t.nonce ∧ b = none ∧ i < l.length) := fun h => h2 ⟨h.1, h.2.1⟩
            have h4 : ¬ (n < t.nonce ∧ b.map (·.1) = none) := fun h => h2 ⟨h.1, by simpa using h.2⟩
            simp only [h1, if_false, h3, h4, dif_neg, not_false_eq_true]
            rw [ih (i + 1) _ (by omega)]
    exact key l 0 none (by simp)

def sSl (n : Int) : Int := if n < 0 ∨ 400 < n then 0 else max 1 ((n + 31) / 32)

theorem p_r01_Slots (n : Int) : F_k5c n = some (sSl n) := by
  simp only [F_k5c, pk_k5c, sSl]
  by_cases h : n < 0
  · simp [h]
  · by_cases h1 : 400 < n
    · simp [h1]
    · have e1 : IntKind.i64.wrap (n + 31) = n + 31 := wrap64 (by omega) (by omega)
      have e2 : (n + 31).tdiv 32 = (n + 31) / 32 := Int.tdiv_eq_ediv_of_nonneg (by omega)
      have e3 : IntKind.i64.wrap ((n + 31) / 32) = (n + 31) / 32 := wrap64 (by omega) (by omega)
      simp only [h, h1, if_false, e1, e2, e3, or_self, Int.max_comm]

theorem p_sat_Slots (n : Int) : F_ka6 n = some (sSl n) := by
  simp only [F_ka6, pk_ka6, sSl]
  by_cases h : n < 0
  · simp [h]
  · by_cases h1 : 400 < n
    · simp [h1]
    · have e0 : IntKind.i64.wrap (n + 32) = n + 32 := wrap64 (by omega) (by omega)
      have e1 : IntKind.i64.wrap (n + 32 - 1) = n + 31 := (wrap64 (by omega) (by omega)).trans (by omega)
      have e2 : (n + 31).tdiv 32 = (n + 31) / 32 := Int.tdiv_eq_ediv_of_nonneg (by omega)
      have e3 : IntKind.i64.wrap ((n + 31) / 32) = (n + 31) / 32 := wrap64 (by omega) (by omega)
      simp only [h, h1, if_false, e0, e1, e2, e3, or_self]

def sRaise (t p : Int) : Int × Bool :=
  if t < 0 ∨ 1099511627776 < t ∨ p < 0 ∨ 100 < p then (0, false)
  else if 1099511627776 < max (t + (t * p + 99) / 100) (t + 1) then (0, false) else (max (t + (t * p + 99) / 100) (t + 1), true)

theorem p_r01_Raise (t p : Int) : F_k5b t p = some (sRaise t p) := by
  simp only [F_k5b, pk_k5b, sRaise]
  by_cases h1 : t < 0
  · simp [h1]
  by_cases h2 : 1099511627776 < t
  · simp [h1, h2]
  by_cases h3 : p < 0
  · simp [h1, h2, h3]
  by_cases h4 : 100 < p
  · simp [h1, h2, h3, h4]
  simp only [h1, h2, h3, h4, if_false, or_self]
  have hm0 : 0 ≤ t * (100 + p) := Int.mul_nonneg (by omega) (by omega)
  have hm1 : t * (100 + p) ≤ 1099511627776 * 200 := Int.mul_le_mul (by omega) (by omega) (by omega) (by omega)
  have e1 : IntKind.i64.wrap (100 + p) = 100 + p := wrap64 (by omega) (by omega)
  have hx : t * (100 + p) = 100 * t + t * p := by rw [Int.mul_add, Int.mul_comm t 100]
  obtain ⟨x, hxx⟩ : ∃ x, x = t * p := ⟨_, rfl⟩
  rw [e1, hx, ← hxx]
  rw [hx, ← hxx] at hm0 hm1
  have hx0 : 0 ≤ x := hxx ▸ Int.mul_nonneg (by omega) (by omega)
  have e2 : IntKind.i64.wrap (100 * t + x) = 100 * t + x := wrap64 (by omega) (by omega)
  rw [e2]
  have e3 : (100 * t + x).tdiv 100 = (100 * t + x) / 100 := Int.tdiv_eq_ediv_of_nonneg hm0
  have e4 : (100 * t + x).tmod 100 = (100 * t + x) % 100 := Int.tmod_eq_emod_of_nonneg hm0
  have e5 : IntKind.i64.wrap ((100 * t + x) / 100) = (100 * t + x) / 100 := wrap64 (by omega) (by omega)
  have e6 : IntKind.i64.wrap ((100 * t + x) / 100 + 1) = (100 * t + x) / 100 + 1 := wrap64 (by omega) (by omega)
  have e7 : IntKind.i64.wrap (t + 1) = t + 1 := wrap64 (by omega) (by omega)
  rw [e3, e4, e5, e6, e7]
  by_cases h5 : 0 < (100 * t + x) % 100
  · have : (100 * t + x) / 100 + 1 = t + (x + 99) / 100 := by omega
    rw [if_pos h5, this]
    split <;> rfl
  · have : (100 * t + x) / 100 = t + (x + 99) / 100 := by omega
    rw [if_neg h5, this]
    split <;> rfl

theorem p_sat_Raise (t p : Int) : F_ka5 t p = some (sRaise t p) := by
  simp only [F_ka5, pk_ka5, sRaise]
  by_cases h1 : t < 0
  · simp [h1]
  by_cases h2 : 1099511627776 < t
  · simp [h1, h2]
  by_cases h3 : p < 0
  · simp [h1, h2, h3]
  by_cases h4 : 100 < p
  · simp [h1, h2, h3, h4]
  simp only [h1, h2, h3, h4, if_false, or_self]
  have hm0 : 0 ≤ t * p := Int.mul_nonneg (by omega) (by omega)
  have hm1 : t * p ≤ 1099511627776 * 100 := Int.mul_le_mul (by omega) (by omega) (by omega) (by omega)
  obtain ⟨x, hxx⟩ : ∃ x, x = t * p := ⟨_, rfl⟩
  rw [← hxx] at hm0 hm1 ⊢
  have e1 : IntKind.i64.wrap x = x := wrap64 (by omega) (by omega)
  have e2 : IntKind.i64.wrap (x + 100) = x + 100 := wrap64 (by omega) (by omega)
  have e3 : IntKind.i64.wrap (x + 100 - 1) = x + 99 := (wrap64 (by omega) (by omega)).trans (by omega)
  have e4 : (x + 99).tdiv 100 = (x + 99) / 100 := Int.tdiv_eq_ediv_of_nonneg (by omega)
  have e5 : IntKind.i64.wrap ((x + 99) / 100) = (x + 99) / 100 := wrap64 (by omega) (by omega)
  have e6 : IntKind.i64.wrap (t + (x + 99) / 100) = t + (x + 99) / 100 := wrap64 (by omega) (by omega)
  have e7 : IntKind.i64.wrap (t + (x + 99) / 100 + 1) = t + (x + 99) / 100 + 1 := wrap64 (by omega) (by omega)
  rw [e1, e2, e3, e4, e5, e6, e7]
  by_cases h5 : t + (x + 99) / 100 = t
  · have h6 : max (t + (x + 99) / 100) (t + 1) = t + (x + 99) / 100 + 1 := by omega
    rw [if_pos h5, h6]
    split <;> rfl
  · have h6 : max (t + (x + 99) / 100) (t + 1) = t + (x + 99) / 100 := by omega
    rw [if_neg h5, h6]
    split <;> rfl

def sFew (l : List Tx) (m : Int) : Bool := l.all (fun t => decide (t.data.size ≤ 500)) && decide ((l.length : Int) ≤ m)

theorem p_r04_Small (t : Tx) : F_k6b t = some (decide (t.data.size ≤ 500)) := by
  simp only [F_k6b, pk_k6b, Option.some.injEq, decide_eq_decide]; omega

theorem p_r04_Few (l : List Tx) (m : Int) (hl : Short l) : F_k69 l m = some (sFew l m) := by
  simp only [F_k69, pk_k69, p_r04_Small, Option.bind_some]
  refine run_bind (γ := Unit) l (fun i _ => ⟨l, m, i⟩) (fun i _ t => if t.data.size ≤ 500 then some (.inl ()) else some (.inr (.inr false))) (fun _ => some (.inl ⟨l, m, l.length⟩)) () rfl ?_ ?_ ?_
  · intro i c t ht
    obtain ⟨h1, h2, h3, h4⟩ := at_ ht hl
    simp only [h1, h2, h3, h4, ht, if_true, Option.bind_some, decide_eq_false_iff_not]
    by_cases h : t.data.size ≤ 500 <;> simp [h]
  · intro c; simp
  · have key : ∀ (k : List Tx) (i : Nat), (loopL (γ := Unit) (fun i _ t => if t.data.size ≤ 500 then some (.inl ()) else some (.inr (.inr false))) (fun _ => some (.inl (⟨l, m, l.length⟩ : L_k69_0))) i () k).bind (selim (fun s => some (decide ((s.l.length : Int) ≤ s.most))) fun n => some n) = some (k.all (fun t => decide (t.data.size ≤ 500)) && decide ((l.length : Int) ≤ m)) := by
      intro k
      induction k with
      | nil => intro i; simp [loopL, selim]
      | cons t k ih =>
        intro i
        unfold loopL
        by_cases h : t.data.size ≤ 500
        · simpa [h] using ih (i + 1)
        · simp [h, selim]
    exact key l 0

theorem p_r04_Txs (l : List Tx) (hl : Short l) : F_k6c l l = some true := by
  simp only [F_k6c, pk_k6c, if_true]
  refine run_bind (γ := Unit) l (fun i _ => ⟨l, l, i⟩) (fun i _ t => some (.inl ())) (fun _ => some (.inl ⟨l, l, l.length⟩)) () rfl ?_ ?_ ?_
  · intro i c t ht
    obtain ⟨h1, h2, h3, h4⟩ := at_ ht hl
    simp only [h1, h2, h3, h4, ht, if_true, Option.bind_some, not_true_eq_false, or_self, if_false]
  · intro c; simp
  · have key : ∀ (k : List Tx) (i : Nat), (loopL (γ := Unit) (fun i _ t => some (.inl ())) (fun _ => some (.inl (⟨l, l, l.length⟩ : L_k6c_0))) i () k).bind (selim (fun s => some true) fun n => some n) = some true := by
      intro k
      induction k with
      | nil => intro i; simp [loopL, selim]
      | cons t k ih => intro i; exact ih (i + 1)
    exact key l 0

theorem p_r05_Same (a : Acc) (hl : Short a.txs) : F_k74 a a = some true := by
  simp only [F_k74, pk_k74, if_true]
  exact p_r04_Txs _ hl

theorem p_r13_Same (a : Result) (hl : Short a.txs) : F_k8f a a = some true := by
  simp only [F_k8f, pk_k8f, and_self, if_true]
  exact p_r04_Txs _ hl

theorem loop_filter {α β : Type} (p : α → Bool) (fin : List α → Option β) : ∀ (l : List α) (i : Nat) (c : List α), i + l.length ≤ 1099511627776 → c.length ≤ i →
    loopL (fun _ c t => if p t = true then (if (c.length + 1) * 56 ≤ 140737488355328 then some (.inl (c ++ [t])) else none) else some (.inl c)) fin i c l = fin (c ++ l.filter p)
  | [], i, c, _, _ => by simp [loopL]
  | t :: l, i, c, hi, hc => by
    simp only [List.length_cons] at hi
    unfold loopL
    by_cases h : p t = true
    · have h56 : (c.length + 1) * 56 ≤ 140737488355328 := by omega
      simp only [h, if_true, h56]
      rw [loop_filter p fin l (i + 1) _ (by omega) (by simp; omega)]
      simp [h]
    · simp only [h, Bool.false_eq_true, if_false]
      rw [loop_filter p fin l (i + 1) _ (by omega) (by omega)]
      simp [h]

theorem loop_part {α β : Type} (p : α → Bool) (fin : List α × List α → Option β) : ∀ (l : List α) (i : Nat) (c : List α × List α), i + l.length ≤ 1099511627776 → c.1.length ≤ i → c.2.length ≤ i →
    loopL (fun _ c t => if p t = true then (if (c.1.length + 1) * 56 ≤ 140737488355328 then some (.inl (c.1 ++ [t], c.2)) else none) else (if (c.2.length + 1) * 56 ≤ 140737488355328 then some (.inl (c.1, c.2 ++ [t])) else none)) fin i c l = fin (c.1 ++ l.filter p, c.2 ++ l.filter fun t => !p t)
  | [], i, c, _, _, _ => by simp [loopL]
  | t :: l, i, c, hi, hc, hd => by
    simp only [List.length_cons] at hi
    unfold loopL
    have h56 : (c.1.length + 1) * 56 ≤ 140737488355328 := by omega
    have h57 : (c.2.length + 1) * 56 ≤ 140737488355328 := by omega
    by_cases h : p t = true
    · simp only [h, if_true, h56]
      rw [loop_part p fin l (i + 1) _ (by omega) (by simp; omega) (by simp; omega)]
      simp [h]
    · simp only [h, Bool.false_eq_true, if_false, h57, if_true]
      rw [loop_part p fin l (i + 1) _ (by omega) (by simp; omega) (by simp; omega)]
      simp [h]

def sDrop (a : Acc) (n : Int) : Acc := ⟨a.sender, a.base, a.txs.filter (fun t => decide (t.nonce ≠ n))⟩

theorem p_r05_Drop (a : Acc) (n : Int) (hl : Short a.txs) : F_k6f a n = some (sDrop a n) := by
  simp only [F_k6f, pk_k6f]
  refine run_bind (γ := List Tx) a.txs (fun i c => ⟨n, i, a, 0, 0, c⟩) (fun i c t => if decide (t.nonce ≠ n) = true then (if (c.length + 1) * 56 ≤ 140737488355328 then some (.inl (c ++ [t])) else none) else some (.inl c)) (fun c => some (.inl ⟨n, a.txs.length, a, 0, 0, c⟩)) [] rfl ?_ ?_ ?_
  · intro i c t ht
    obtain ⟨h1, h2, h3, h4⟩ := at_ ht hl
    simp only [h1, h2, h3, h4, ht, if_true, Option.bind_some]
    by_cases h : t.nonce = n
    · simp [h]
    · simp only [h, if_false, not_false_eq_true, ne_eq, decide_true, if_true]
      split <;> rfl
  · intro c; simp
  · refine (congrArg (fun x => Option.bind x _) (loop_filter (fun t => decide (t.nonce ≠ n)) _ a.txs 0 [] (by have := hl; omega) (by simp))).trans ?_
    simp [selim, sDrop]

def sAdv (a : Acc) (b : Int) : Acc × List Tx × Int :=
  if b < 0 ∨ 4294967295 < b then (a, [], 1) else if b < a.base then (a, [], 3)
  else (⟨a.sender, b, a.txs.filter fun t => !decide (t.nonce < b)⟩, a.txs.filter (fun t => decide (t.nonce < b)), 0)

theorem p_r05_Advance (a : Acc) (b : Int) (hl : Short a.txs) : F_k6d a b = some (sAdv a b) := by
  simp only [F_k6d, pk_k6d, sAdv]
  by_cases h0 : b < 0
  · simp [h0]
  by_cases h1 : 4294967296 ≤ b
  · have : 4294967295 < b := by omega
    simp [h0, h1, this]
  have h2 : ¬ 4294967295 < b := by omega
  by_cases h3 : b < a.base
  · simp [h0, h1, h2, h3]
  simp only [h0, h1, h2, h3, if_false, or_self]
  refine run_bind (γ := List Tx × List Tx) a.txs (fun i c => ⟨b, i, a, 0, 0, [], c.2, c.1⟩) (fun i c t => if decide (t.nonce < b) = true then (if (c.1.length + 1) * 56 ≤ 140737488355328 then some (.inl (c.1 ++ [t], c.2)) else none) else (if (c.2.length + 1) * 56 ≤ 140737488355328 then some (.inl (c.1, c.2 ++ [t])) else none)) (fun c => some (.inl ⟨b, a.txs.length, a, 0, 0, [], c.2, c.1⟩)) ([], []) rfl ?_ ?_ ?_
  · intro i c t ht
    obtain ⟨h1, h2, h3, h4⟩ := at_ ht hl
    simp only [h1, h2, h3, h4, ht, if_true, Option.bind_some]
    by_cases h : t.nonce < b
    · simp only [h, decide_true, if_true]; split <;> rfl
    · simp only [h, decide_false, Bool.false_eq_true, if_false]; split <;> rfl
  · intro c; simp
  · refine (congrArg (fun x => Option.bind x _) (loop_part (fun t : Tx => decide (t.nonce < b)) _ a.txs 0 ([], []) (by have := hl; omega) (by simp) (by simp))).trans ?_
    simp [selim]

theorem p_queue_Advance (a : Acc) (b : Int) (hl : Short a.txs) : F_k50 a b = some (sAdv a b) := by
  simp only [F_k50, pk_k50, sAdv, p_queue_in, Option.bind_some, decide_eq_false_iff_not]
  by_cases h0 : b < 0
  · have : ¬ (0 ≤ b ∧ b ≤ 4294967295) := by omega
    simp [h0, this]
  by_cases h1 : 4294967295 < b
  · have : ¬ (0 ≤ b ∧ b ≤ 4294967295) := by omega
    simp [h0, h1, this]
  have h2 : (0 ≤ b ∧ b ≤ 4294967295) := by omega
  by_cases h3 : b < a.base
  · simp [h0, h1, h2, h3]
  simp only [h0, h1, h2, h3, if_false, or_self, not_true_eq_false, and_self]
  refine run_bind (γ := List Tx × List Tx) a.txs (fun i c => ⟨b, a.txs, a.txs.length, i, a, 0, 0, [], c.2, c.1⟩) (fun i c t => if decide (t.nonce < b) = true then (if (c.1.length + 1) * 56 ≤ 140737488355328 then some (.inl (c.1 ++ [t], c.2)) else none) else (if (c.2.length + 1) * 56 ≤ 140737488355328 then some (.inl (c.1, c.2 ++ [t])) else none)) (fun c => some (.inl ⟨b, a.txs, a.txs.length, a.txs.length, a, 0, 0, [], c.2, c.1⟩)) ([], []) rfl ?_ ?_ ?_
  · intro i c t ht
    obtain ⟨h1, h2, h3, h4⟩ := at_ ht hl
    simp only [h1, h2, h3, h4, ht, if_true, Option.bind_some]
    by_cases h : t.nonce < b
    · simp only [h, decide_true, if_true]; split <;> rfl
    · simp only [h, decide_false, Bool.false_eq_true, if_false]; split <;> rfl
  · intro c; simp
  · refine (congrArg (fun x => Option.bind x _) (loop_part (fun t : Tx => decide (t.nonce < b)) _ a.txs 0 ([], []) (by have := hl; omega) (by simp) (by simp))).trans ?_
    simp [selim]

def sRep (t : Tx) : List Tx → List Tx
  | [] => [t]
  | x :: l => if x.nonce = t.nonce then t :: l else x :: sRep t l
def sIns (t : Tx) : List Tx → List Tx
  | [] => [t]
  | x :: l => if t.nonce < x.nonce then t :: x :: l else x :: sIns t l
def sPutL (l : List Tx) (t : Tx) : List Tx := if (sFind l t.nonce).2 = true then sRep t l else sIns t l
def sPut (a : Acc) (t : Tx) : Acc := ⟨a.sender, a.base, sPutL a.txs t⟩

theorem sFind_not {l : List Tx} {n : Int} (h : (sFind l n).2 = false) : ∀ t ∈ l, t.nonce ≠ n := by
  intro t ht hn
  unfold sFind at h
  split at h
  · cases h
  · rename_i hf
    have := List.find?_eq_none.1 hf t ht
    simp [hn] at this

def putF (b : Bool) (t : Tx) {β : Type} (c : Bool × List Tx) (x : Tx) : Option ((Bool × List Tx) ⊕ β) :=
  if c.1 = false ∧ x.nonce = t.nonce then (if (c.2.length + 1) * 56 ≤ 140737488355328 then some (.inl (true, c.2 ++ [t])) else none)
  else if c.1 = false ∧ b = false ∧ t.nonce < x.nonce then (if (c.2.length + 1) * 56 ≤ 140737488355328 then (if (c.2.length + 1 + 1) * 56 ≤ 140737488355328 then some (.inl (true, c.2 ++ [t, x])) else none) else none)
  else (if (c.2.length + 1) * 56 ≤ 140737488355328 then some (.inl (c.1, c.2 ++ [x])) else none)

theorem room56 {n : Nat} (h : n ≤ 1099511627800) : n * 56 ≤ 140737488355328 := Nat.le_trans (Nat.mul_le_mul_right 56 h) (by decide)

theorem putF_key (b : Bool) (t : Tx) {β δ : Type} (fin : Bool × List Tx → Option β) (g : β → Option δ) (G : List Tx → δ)
    (hg1 : ∀ out, (fin (true, out)).bind g = some (G out)) (hg0 : ∀ out, out.length ≤ 1099511627777 → (fin (false, out)).bind g = some (G (out ++ [t]))) :
    ∀ (m : List Tx) (i : Nat) (laid : Bool) (out : List Tx), i + m.length ≤ 1099511627776 → out.length ≤ i + laid.toNat → (b = false → ∀ x ∈ m, x.nonce ≠ t.nonce) →
      (loopL (fun _ c x => putF b t c x) fin i (laid, out) m).bind g = some (G (out ++ if laid then m else if b = true then sRep t m else sIns t m))
  | [], i, laid, out, h1, h2, h3 => by
    simp only [List.length_nil] at h1
    cases laid with
    | true => simpa [loopL] using hg1 out
    | false => cases b <;> simpa [loopL, sRep, sIns] using hg0 out (by simp at h2; omega)
  | x :: m, i, laid, out, h1, h2, h3 => by
    simp only [List.length_cons] at h1
    have h7 : (out.length + 1) * 56 ≤ 140737488355328 := room56 (by cases laid <;> simp at h2 <;> omega)
    have h8 : (out.length + 1 + 1) * 56 ≤ 140737488355328 := room56 (by cases laid <;> simp at h2 <;> omega)
    have h3' : b = false → ∀ y ∈ m, y.nonce ≠ t.nonce := fun h y hy => h3 h y (List.mem_cons_of_mem _ hy)
    have hx : b = false → x.nonce ≠ t.nonce := fun h => h3 h x (List.mem_cons_self)
    have ih := fun laid out h => putF_key b t fin g G hg1 hg0 m (i + 1) laid out (by omega) h h3'
    unfold loopL
    cases laid with
    | true =>
      have hf : putF b t (β := β) (true, out) x = some (.inl (true, out ++ [x])) := by simp [putF, h7]
      simp only [hf]
      rw [ih true _ (by simp at h2 ⊢; omega)]
      simp
    | false =>
      by_cases h5 : x.nonce = t.nonce
      · have hf : putF b t (β := β) (false, out) x = some (.inl (true, out ++ [t])) := by simp [putF, h7, h5]
        simp only [hf]
        rw [ih true _ (by simp at h2 ⊢; omega)]
        cases b with
        | false => exact absurd h5 (hx rfl)
        | true => simp [sRep, h5]
      · by_cases h6 : b = false ∧ t.nonce < x.nonce
        · have hf : putF b t (β := β) (false, out) x = some (.inl (true, out ++ [t, x])) := by simp [putF, h7, h8, h5, h6]
          simp only [hf]
          rw [ih true _ (by simp at h2 ⊢; omega)]
          simp [sIns, h6]
        · have hf : putF b t (β := β) (false, out) x = some (.inl (false, out ++ [x])) := by simp only [putF, h7, h5, h6, and_false, if_false, if_true, true_and]
          simp only [hf]
          rw [ih false _ (by simp at h2 ⊢; omega)]
          cases b with
          | false =>
            have : ¬ t.nonce < x.nonce := fun h => h6 ⟨rfl, h⟩
            simp [sIns, this]
          | true => simp [sRep, h5]

theorem p_r05_Put (a : Acc) (t : Tx) (hl : Short a.txs) : F_k72 a t = some (sPut a t) := by
  simp only [F_k72, pk_k72, p_r05_Find a t.nonce hl, Option.bind_some]
  obtain ⟨fs, hfs⟩ : ∃ fs, fs = sFind a.txs t.nonce := ⟨_, rfl⟩
  rw [← hfs]
  refine run_bind (γ := Bool × List Tx) a.txs (fun i c => ⟨c.1, fs.2, i, a, t, 0, 0, c.2, fs.1⟩) (fun _ c x => putF fs.2 t c x)
    (fun c => some (.inl ⟨c.1, fs.2, a.txs.length, a, t, 0, 0, c.2, fs.1⟩)) (false, []) rfl ?_ ?_ ?_
  · intro i c x ht
    obtain ⟨h1, h2, h3, h4⟩ := at_ ht hl
    obtain ⟨c1, c2⟩ := c
    simp only [h1, h2, h3, h4, ht, if_true, Option.bind_some, putF]
    clear h1 h2 h3 h4 ht hfs
    obtain ⟨f1, f2⟩ := fs
    simp only
    by_cases h7 : (c2.length + 1) * 56 ≤ 140737488355328
    · by_cases h8 : (c2.length + 1 + 1) * 56 ≤ 140737488355328
      · simp only [h7, h8, if_true]
        cases c1 <;> cases f2 <;> by_cases h5 : x.nonce = t.nonce <;> by_cases h6 : t.nonce < x.nonce <;> simp only [h5, h6, if_true, if_false, Bool.false_eq_true, Bool.true_eq_false, and_true, true_and, and_false, false_and, Int.lt_irrefl, and_self]
      · simp only [h7, h8, if_true, if_false]
        cases c1 <;> cases f2 <;> by_cases h5 : x.nonce = t.nonce <;> by_cases h6 : t.nonce < x.nonce <;> simp only [h5, h6, if_true, if_false, Bool.false_eq_true, Bool.true_eq_false, and_true, true_and, and_false, false_and, Int.lt_irrefl, and_self]
    · simp only [h7, if_false]
      cases c1 <;> cases f2 <;> by_cases h5 : x.nonce = t.nonce <;> by_cases h6 : t.nonce < x.nonce <;> simp only [h5, h6, if_true, if_false, Bool.false_eq_true, Bool.true_eq_false, and_true, true_and, and_false, false_and, Int.lt_irrefl, and_self]
  · intro c; simp
  · refine (putF_key fs.2 t _ _ (fun out => ⟨a.sender, a.base, out⟩) (fun out => by simp [selim]) (fun out ho => by simp [selim, room56 (show out.length + 1 ≤ 1099511627800 by omega)]) a.txs 0 false [] (by have := hl; omega) (by simp) (fun h => sFind_not (hfs ▸ h))).trans ?_
    simp [sPut, sPutL, hfs]

end Go.Vm

/- Layer 3, numbers and texts as bytes: what program and document come to, over lists of bytes. -/
set_option linter.unusedVariables false
set_option linter.unusedSimpArgs false
namespace Go.Vm
open Go Go.RowKit

def mk (l : List UInt8) : ByteArray := ⟨l.toArray⟩
def L (s : ByteArray) : List UInt8 := s.data.toList
theorem mk_L (s : ByteArray) : mk (L s) = s := by cases s; simp [mk, L]
@[simp] theorem L_mk (l : List UInt8) : L (mk l) = l := by simp [mk, L]
theorem mk_inj {l m : List UInt8} : mk l = mk m ↔ l = m := ⟨fun h => by simpa using congrArg L h, fun h => by rw [h]⟩
theorem mk_size (l : List UInt8) : (mk l).size = l.length := by simp [mk, ByteArray.size]
theorem mk_nil : ({ data := #[] } : ByteArray) = mk [] := rfl
theorem empty_nil : ByteArray.empty = mk [] := rfl
theorem mk_app (l m : List UInt8) : mk l ++ mk m = mk (l ++ m) := by
  have : (mk l ++ mk m).data = (mk (l ++ m)).data := by rw [ByteArray.data_append]; simp [mk]
  exact ByteArray.ext this
theorem mk_get (l : List UInt8) (i : Nat) : (mk l)[i]? = l[i]? := by
  by_cases h : i < l.length
  · rw [getElem?_pos (mk l) i (by rw [mk_size]; exact h), List.getElem?_eq_getElem h]
    congr 1
  · rw [getElem?_neg (mk l) i (by rw [mk_size]; exact h), List.getElem?_eq_none (by omega)]
theorem mk_extract (l : List UInt8) (a b : Nat) : (mk l).extract a b = mk ((l.take b).drop a) := by
  have : ((mk l).extract a b).data = (mk ((l.take b).drop a)).data := by
    rw [ByteArray.data_extract]
    apply Array.ext'
    simp [mk, List.drop_take]
  exact ByteArray.ext this
theorem byts_mk (l : List UInt8) : byts (mk l) = l.map fun b => (b.toNat : Int) := by simp [byts, mk]
theorem str_nums (l : List UInt8) : strOfNums (l.map fun b => (b.toNat : Int)) = mk l := by
  unfold strOfNums mk
  congr 2
  rw [List.map_map]
  conv => rhs; rw [← List.map_id l]
  apply List.map_congr_left
  intro b _
  simp

theorem wrap_mod (x : Int) : IntKind.i64.wrap x % 18446744073709551616 = x % 18446744073709551616 := by
  simp only [IntKind.wrap, IntKind.bits, IntKind.signed]; simp; omega
theorem wrap_eq {x y : Int} (h : x % 18446744073709551616 = y % 18446744073709551616) : IntKind.i64.wrap x = IntKind.i64.wrap y := by
  simp only [IntKind.wrap, IntKind.bits, IntKind.signed]; simp [h]
theorem wrap_u8 {n : Int} (h0 : 0 ≤ n) (h1 : n < 256) : IntKind.u8.wrap n = n := by
  simp only [IntKind.wrap, IntKind.bits, IntKind.signed]; simp; omega
theorem wrap_u8m (n : Int) : IntKind.u8.wrap n = n % 256 := by
  simp only [IntKind.wrap, IntKind.bits, IntKind.signed]; simp
theorem ofInt_mod (x : Int) : BitVec.ofInt 64 (x % 18446744073709551616) = BitVec.ofInt 64 x := by
  apply BitVec.eq_of_toNat_eq
  simp only [BitVec.toNat_ofInt]
  congr 1
  omega
theorem or_u64 (x y : Int) : bits .or .i64 x y = IntKind.i64.wrap (bits .or .u64 (y % 18446744073709551616) (x % 18446744073709551616)) := by
  have e1 : bits .or .i64 x y = IntKind.i64.wrap ((BitVec.ofInt 64 x ||| BitVec.ofInt 64 y).toNat : Int) := rfl
  have e2 : ∀ a b, bits .or .u64 a b = IntKind.u64.wrap ((BitVec.ofInt 64 a ||| BitVec.ofInt 64 b).toNat : Int) := fun _ _ => rfl
  rw [e1, e2, ofInt_mod, ofInt_mod, BitVec.or_comm]
  apply wrap_eq
  simp only [IntKind.wrap, IntKind.bits, IntKind.signed]
  simp
theorem or8 (n a : Int) (h0 : 0 ≤ a) (h1 : a < 256) : bits .or .i64 (IntKind.i64.wrap (n * 256)) (IntKind.i64.wrap a) = IntKind.i64.wrap (n * 256 + a) := by
  simp only [or_u64, wrap_mod]
  rw [u64_or8 _ _ (by omega) (by omega) (by omega) (by omega) (by omega)]
  apply wrap_eq
  omega

def val (l : List UInt8) : Nat := l.foldl (fun n b => n * 256 + b.toNat) 0
theorem val_snoc (l : List UInt8) (b : UInt8) : val (l ++ [b]) = val l * 256 + b.toNat := by simp [val]
theorem val_lt : ∀ (n : Nat) (l : List UInt8), l.length = n → val l < 256 ^ n
  | 0, l, h => by
    obtain rfl := List.eq_nil_of_length_eq_zero h
    simp [val]
  | n + 1, l, h => by
    have hne : l ≠ [] := fun e => by rw [e] at h; simp at h
    rw [← List.dropLast_concat_getLast hne, val_snoc]
    have h1 := val_lt n l.dropLast (by simp [h])
    have h2 := (l.getLast hne).toNat_lt
    rw [Nat.pow_succ]
    omega

def nb (n : Nat) : List UInt8 := if h : n < 256 then [UInt8.ofNat n] else nb (n / 256) ++ [UInt8.ofNat (n % 256)]
  termination_by n
  decreasing_by omega

theorem val_nb (n : Nat) : val (nb n) = n := by
  induction n using Nat.strongRecOn with
  | _ n ih =>
    unfold nb
    split
    · rename_i h
      simp [val]; omega
    · rename_i h
      rw [val_snoc, ih (n / 256) (by omega)]
      simp
      omega

theorem nb_len (n : Nat) : 1 ≤ (nb n).length := by
  unfold nb; split <;> simp

theorem nb_le : ∀ (k n : Nat), n < 256 ^ (k + 1) → (nb n).length ≤ k + 1
  | 0, n, h => by
    unfold nb; rw [dif_pos (by simpa using h)]; simp
  | k + 1, n, h => by
    unfold nb
    split
    · simp
    · have h2 : n / 256 < 256 ^ (k + 1) := by
        rw [Nat.div_lt_iff_lt_mul (by decide)]
        rw [Nat.pow_succ] at h; exact h
      have := nb_le k (n / 256) h2
      simp; omega

theorem nb8 {n : Nat} (h : n < 9223372036854775808) : (nb n).length ≤ 8 := nb_le 7 n (by omega)

def numL (n : Nat) : List UInt8 := UInt8.ofNat (nb n).length :: nb n


theorem p_codec_value (l : List UInt8) (hl : Short l) : F_k08 (l.map fun b => (b.toNat : Int)) = some (IntKind.i64.wrap (val l)) := by
  simp only [F_k08, pk_k08]
  obtain ⟨m, hm⟩ : ∃ m, m = l.map fun b => (b.toNat : Int) := ⟨_, rfl⟩
  have hml : m.length = l.length := by rw [hm]; simp
  have hb : ∀ x ∈ m, 0 ≤ x ∧ x < 256 := by
    intro x hx
    rw [hm] at hx
    obtain ⟨b, _, rfl⟩ := List.mem_map.1 hx
    have := b.toNat_lt
    omega
  rw [← hm]
  refine run_bind (γ := Int) m (fun i n => ⟨IntKind.i64.wrap n, m, m.length, i⟩) (fun i n a => some (.inl (n * 256 + a))) (fun n => some (.inl ⟨IntKind.i64.wrap n, m, m.length, m.length⟩)) 0 rfl ?_ ?_ ?_
  · intro i n a ha
    obtain ⟨h1, h2, h3, h4⟩ := at_ ha (by rw [hml]; exact hl)
    obtain ⟨h5, h6⟩ := hb a (List.mem_of_getElem? ha)
    simp only [h1, h2, h3, h4, ha, if_true, Option.bind_some]
    have e : IntKind.i64.wrap (IntKind.i64.wrap n * 256) = IntKind.i64.wrap (n * 256) := wrap_eq (by have := wrap_mod n; omega)
    rw [e, or8 n a h5 h6]
  · intro n; simp
  · have key : ∀ (k : List UInt8) (i : Nat) (n : Nat), (loopL (β := L_k08_0 ⊕ Int) (fun i n a => some (.inl (n * 256 + a))) (fun n => some (.inl (⟨IntKind.i64.wrap n, m, m.length, m.length⟩ : L_k08_0))) i (n : Int) (k.map fun b => (b.toNat : Int))).bind (selim (fun s => some s.n) fun n => some n) = some (IntKind.i64.wrap (k.foldl (fun n b => n * 256 + b.toNat) n : Nat)) := by
      intro k
      induction k with
      | nil => intro i n; simp [loopL, selim]
      | cons b k ih =>
        intro i n
        have := ih (i + 1) (n * 256 + b.toNat)
        simp only [List.map_cons, List.foldl_cons]
        unfold loopL
        simp only
        rw [← this]
        simp
    have := key l 0 0
    rw [← hm] at this
    exact this

theorem p_codec_cut (l : List UInt8) (n : Nat) : F_k07 (mk l) n = some (if l.length < n then ([], mk [], false) else ((l.take n).map (fun b => (b.toNat : Int)), mk (l.drop n), true)) := by
  simp only [F_k07, pk_k07, mk_size, byts_mk, mk_nil, mk_extract]
  by_cases h : l.length < n
  · have : (l.length : Int) < n := by omega
    simp [h, this]
  · have h1 : ¬ (l.length : Int) < n := by omega
    have h2 : (0 ≤ (n : Int)) ∧ ((n : Int) ≤ l.length) := by omega
    simp [h, h1, h2, List.map_take]

theorem strOfNums_cons (n : Int) (k : Nat) (h : n = k) (xs : List Int) (l : List UInt8) (hx : strOfNums xs = mk l) : strOfNums (n :: xs) = mk (UInt8.ofNat k :: l) := by
  have : (strOfNums xs).data.toList = l := by rw [hx]; simp [mk]
  rw [strOfNums_data] at this
  unfold strOfNums mk
  congr 2
  simp [h, this]

def digs : Nat → Nat → List UInt8
  | 0, n => []
  | k + 1, n => digs k (n / 256) ++ [UInt8.ofNat (n % 256)]

theorem nb_digs : ∀ (k n : Nat), n < 256 ^ (k + 1) → (k = 0 ∨ 256 ^ k ≤ n) → nb n = digs (k + 1) n
  | 0, n, h, _ => by
    have h' : n < 256 := by simpa using h
    unfold nb; rw [dif_pos h']
    have : n % 256 = n := by omega
    simp [digs, this]
  | k + 1, n, h, h1 => by
    have h2 : ¬ n < 256 := by
      rcases h1 with h1 | h1
      · omega
      · have : 256 ≤ 256 ^ (k + 1) := by rw [Nat.pow_succ]; exact Nat.le_mul_of_pos_left _ (Nat.pow_pos (by decide))
        omega
    unfold nb; rw [dif_neg h2]
    have h3 : n / 256 < 256 ^ (k + 1) := by
      rw [Nat.div_lt_iff_lt_mul (by decide)]
      rw [Nat.pow_succ] at h; exact h
    have h4 : k = 0 ∨ 256 ^ k ≤ n / 256 := by
      rcases h1 with h1 | h1
      · omega
      · right
        rw [Nat.le_div_iff_mul_le (by decide)]
        rw [Nat.pow_succ] at h1; exact h1
    rw [nb_digs k _ h3 h4]
    rfl

theorem fd (n : Nat) : Int.fdiv (n : Int) 256 = ((n / 256 : Nat) : Int) := by
  rw [Int.fdiv_eq_ediv_of_nonneg _ (by decide)]; omega
theorem w8 (n : Nat) : IntKind.u8.wrap (n : Int) = ((n % 256 : Nat) : Int) := by rw [wrap_u8m]; omega
theorem nums_map (l : List Nat) : strOfNums (l.map fun (a : Nat) => (a : Int)) = mk (l.map UInt8.ofNat) := by
  simp [strOfNums, mk]

theorem num_of {n k : Nat} (h : nb n = digs (k + 1) n) : numL n = UInt8.ofNat (k + 1) :: digs (k + 1) n := by
  have hd : ∀ k n, (digs k n).length = k := by
    intro k
    induction k with
    | zero => intro n; rfl
    | succ k ih => intro n; simp [digs, ih]
  unfold numL
  rw [h, hd]

theorem p_codec_Number (n : Nat) (hn : n < 9223372036854775808) : F_k03 n = some (mk (numL n)) := by
  simp only [F_k03, pk_k03, fd, w8]
  have h0 : ¬ ((n : Int) < 0) := by omega
  rw [if_neg h0]
  have e0 : ∀ m : Nat, (((m : Nat) : Int) = 0) = (m = 0) := fun m => by simp
  simp only [e0]
  have fin : ∀ (k : Nat) (xs : List Int) (ys : List Nat), n < 256 ^ (k + 1) → (k = 0 ∨ 256 ^ k ≤ n) → xs = ys.map (fun (a : Nat) => (a : Int)) → ys.map UInt8.ofNat = UInt8.ofNat (k + 1) :: digs (k + 1) n → some (strOfNums xs) = some (mk (numL n)) := by
    intro k xs ys h1 h2 h3 h4
    rw [h3, nums_map, h4, num_of (nb_digs k n h1 h2)]
  by_cases h1 : n / 256 = 0
  · rw [if_pos h1]; exact fin 0 _ [1, n % 256] (by omega) (by omega) (by simp [wrap_u8m]) (by simp [digs])
  rw [if_neg h1]
  by_cases h2 : n / 256 / 256 = 0
  · rw [if_pos h2]; exact fin 1 _ [2, n / 256 % 256, n % 256] (by omega) (by omega) (by simp [wrap_u8m]) (by simp [digs])
  rw [if_neg h2]
  by_cases h3 : n / 256 / 256 / 256 = 0
  · rw [if_pos h3]; exact fin 2 _ [3, n / 256 / 256 % 256, n / 256 % 256, n % 256] (by omega) (by omega) (by simp [wrap_u8m]) (by simp [digs])
  rw [if_neg h3]
  by_cases h4 : n / 256 / 256 / 256 / 256 = 0
  · rw [if_pos h4]; exact fin 3 _ [4, n / 256 / 256 / 256 % 256, n / 256 / 256 % 256, n / 256 % 256, n % 256] (by omega) (by omega) (by simp [wrap_u8m]) (by simp [digs])
  rw [if_neg h4]
  by_cases h5 : n / 256 / 256 / 256 / 256 / 256 = 0
  · rw [if_pos h5]; exact fin 4 _ [5, n / 256 / 256 / 256 / 256 % 256, n / 256 / 256 / 256 % 256, n / 256 / 256 % 256, n / 256 % 256, n % 256] (by omega) (by omega) (by simp [wrap_u8m]) (by simp [digs])
  rw [if_neg h5]
  by_cases h6 : n / 256 / 256 / 256 / 256 / 256 / 256 = 0
  · rw [if_pos h6]; exact fin 5 _ [6, n / 256 / 256 / 256 / 256 / 256 % 256, n / 256 / 256 / 256 / 256 % 256, n / 256 / 256 / 256 % 256, n / 256 / 256 % 256, n / 256 % 256, n % 256] (by omega) (by omega) (by simp [wrap_u8m]) (by simp [digs])
  rw [if_neg h6]
  by_cases h7 : n / 256 / 256 / 256 / 256 / 256 / 256 / 256 = 0
  · rw [if_pos h7]; exact fin 6 _ [7, n / 256 / 256 / 256 / 256 / 256 / 256 % 256, n / 256 / 256 / 256 / 256 / 256 % 256, n / 256 / 256 / 256 / 256 % 256, n / 256 / 256 / 256 % 256, n / 256 / 256 % 256, n / 256 % 256, n % 256] (by omega) (by omega) (by simp [wrap_u8m]) (by simp [digs])
  rw [if_neg h7]
  have h8 : n / 256 / 256 / 256 / 256 / 256 / 256 / 256 / 256 = 0 := by omega
  rw [if_pos h8]
  exact fin 7 _ [8, n / 256 / 256 / 256 / 256 / 256 / 256 / 256 % 256, n / 256 / 256 / 256 / 256 / 256 / 256 % 256, n / 256 / 256 / 256 / 256 / 256 % 256, n / 256 / 256 / 256 / 256 % 256, n / 256 / 256 / 256 % 256, n / 256 / 256 % 256, n / 256 % 256, n % 256] (by omega) (by omega) (by simp [wrap_u8m]) (by simp [digs])

theorem G_r03_eq (F : Int → Option ByteArray) (x : Int) : G_r03_bytes F x = if 256 ≤ x then (F (IntKind.i64.wrap (x.tdiv 256))).bind fun a => (if a.size + (strOfNums [IntKind.u8.wrap (x.tmod 256)]).size ≤ 9223372036854775807 then some (a ++ strOfNums [IntKind.u8.wrap (x.tmod 256)]) else none) else some (strOfNums [IntKind.u8.wrap (x.tmod 256)]) := rfl

theorem p_r03_bytes : ∀ (k n d : Nat), n < 256 ^ (k + 1) → k < d → k ≤ 7 → n < 9223372036854775808 → deepF G_r03_bytes d (n : Int) = some (mk (nb n))
  | k, n, 0, _, h, _, _ => by omega
  | 0, n, d + 1, hn, _, _, _ => by
    have h' : n < 256 := by simpa using hn
    unfold nb
    rw [dif_pos h']
    unfold deepF
    rw [G_r03_eq]
    have h2 : ¬ (256 : Int) ≤ n := by omega
    have h3 : (n : Int).tmod 256 = n := by rw [Int.tmod_eq_emod_of_nonneg (by omega)]; omega
    rw [if_neg h2, h3]
    congr 1
    have := nums_map [n]
    rw [w8]
    have e : n % 256 = n := by omega
    rw [e]
    simpa using this
  | k + 1, n, d + 1, hn, hd, hk, hm => by
    unfold deepF
    rw [G_r03_eq]
    have h3 : (n : Int).tmod 256 = ((n % 256 : Nat) : Int) := by rw [Int.tmod_eq_emod_of_nonneg (by omega)]; omega
    have hs : strOfNums [IntKind.u8.wrap ((n % 256 : Nat) : Int)] = mk [UInt8.ofNat (n % 256)] := by
      rw [w8]
      have e : n % 256 % 256 = n % 256 := by omega
      rw [e]
      simpa using nums_map [n % 256]
    rw [h3, hs]
    by_cases h1 : n < 256
    · have h2 : ¬ (256 : Int) ≤ n := by omega
      rw [if_neg h2]
      unfold nb
      rw [dif_pos h1]
      have e : n % 256 = n := by omega
      rw [e]
    · have h2 : (256 : Int) ≤ n := by omega
      have h4 : IntKind.i64.wrap ((n : Int).tdiv 256) = ((n / 256 : Nat) : Int) := by
        rw [Int.tdiv_eq_ediv_of_nonneg (by omega), wrap64 (by omega) (by omega)]; omega
      have h5 : n / 256 < 256 ^ (k + 1) := by
        rw [Nat.div_lt_iff_lt_mul (by decide)]
        rw [Nat.pow_succ] at hn; exact hn
      rw [if_pos h2, h4]
      have ih := p_r03_bytes k (n / 256) d h5 (by omega) (by omega) (by omega)
      simp only [ih, Option.bind_some, mk_size]
      have hl := nb_le k (n / 256) h5
      rw [if_pos (by simp; omega), mk_app]
      conv => rhs; unfold nb
      rw [dif_neg h1]

theorem p_r03_Number (n : Nat) (hn : n < 9223372036854775808) : F_k60 n = some (mk (numL n)) := by
  simp only [F_k60, pk_k60, F_k64]
  have h0 : ¬ ((n : Int) < 0) := by omega
  rw [if_neg h0, p_r03_bytes 7 n 40 (by omega) (by omega) (by omega) hn]
  simp only [Option.bind_some, mk_size]
  have h8 := nb8 hn
  have e : strOfNums [IntKind.u8.wrap (((nb n).length : Nat) : Int)] = mk [UInt8.ofNat (nb n).length] := by
    rw [w8]
    have e : (nb n).length % 256 = (nb n).length := by omega
    rw [e]
    simpa using nums_map [(nb n).length]
  rw [e, mk_size, if_pos (by simp; omega), mk_app]
  rfl

def sTake (most : Int) : List UInt8 → Option (Nat × List UInt8)
  | [] => none
  | k :: r => if 1 ≤ k.toNat ∧ k.toNat ≤ 8 ∧ k.toNat ≤ r.length ∧ val (r.take k.toNat) < 9223372036854775808 ∧ (val (r.take k.toNat) : Int) ≤ most ∧ numL (val (r.take k.toNat)) = k :: r.take k.toNat
    then some (val (r.take k.toNat), r.drop k.toNat) else none

def tkN : Option (Nat × List UInt8) → Int × ByteArray × Bool
  | some (v, r) => (v, mk r, true)
  | none => (0, mk [], false)

theorem sTake_iff (most : Int) (l : List UInt8) (v : Nat) (r : List UInt8) : sTake most l = some (v, r) ↔ (l = numL v ++ r ∧ v < 9223372036854775808 ∧ (v : Int) ≤ most) := by
  constructor
  · intro h
    unfold sTake at h
    split at h
    · cases h
    · rename_i k q
      split at h
      · rename_i hc
        simp only [Option.some.injEq, Prod.mk.injEq] at h
        obtain ⟨rfl, rfl⟩ := h
        refine ⟨?_, hc.2.2.2.1, hc.2.2.2.2.1⟩
        rw [hc.2.2.2.2.2]
        simp
      · cases h
  · rintro ⟨rfl, hv, hm⟩
    have h1 := nb_len v
    have h8 := nb8 hv
    have hk : (UInt8.ofNat (nb v).length).toNat = (nb v).length := by simp; omega
    unfold numL
    simp only [List.cons_append, sTake, hk, List.take_left, List.drop_left, val_nb, List.length_append]
    rw [if_pos]
    refine ⟨h1, h8, by omega, hv, hm, rfl⟩

theorem val_two (l : List UInt8) (n : Nat) : l.foldl (fun n b => n * 256 + b.toNat) n = n * 256 ^ l.length + val l := by
  unfold val
  induction l generalizing n with
  | nil => simp
  | cons b l ih =>
    simp only [List.foldl_cons, List.length_cons]
    rw [ih, ih (0 * 256 + b.toNat)]
    simp only [Nat.pow_succ, Nat.zero_mul, Nat.zero_add, Nat.add_mul]
    rw [Nat.mul_assoc, Nat.mul_comm 256, Nat.add_assoc]
theorem val_cons (b : UInt8) (l : List UInt8) : val (b :: l) = b.toNat * 256 ^ l.length + val l := by
  have := val_two l b.toNat
  simpa [val] using this

theorem p_codec_TakeNumber (l : List UInt8) (most : Int) (hl : Short l) : F_k04 (mk l) most = some (tkN (sTake most l)) := by
  simp only [F_k04, pk_k04]
  have hc1 : F_k07 (mk l) 1 = _ := p_codec_cut l 1
  rw [hc1]
  cases l with
  | nil => simp [sTake, tkN, mk_nil]
  | cons k r =>
    have hk := k.toNat_lt
    have hw : IntKind.i64.wrap (k.toNat : Int) = (k.toNat : Int) := wrap64 (by omega) (by omega)
    have h0 : ¬ ((k :: r).length < 1) := by simp
    simp only [h0, if_false, Option.bind_some, List.take_succ_cons, List.take_zero, List.map_cons, List.map_nil, List.getElem?_cons_zero, List.drop_succ_cons, List.drop_zero, Bool.true_eq_false, hw]
    by_cases h8 : 8 < k.toNat
    · have : (8 : Int) < k.toNat := by omega
      have hn : ¬ (1 ≤ k.toNat ∧ k.toNat ≤ 8 ∧ k.toNat ≤ r.length ∧ val (r.take k.toNat) < 9223372036854775808 ∧ (val (r.take k.toNat) : Int) ≤ most ∧ numL (val (r.take k.toNat)) = k :: r.take k.toNat) := by omega
      simp only [this, if_true, sTake, hn, if_false]
      rfl
    · have h8' : ¬ (8 : Int) < k.toNat := by omega
      simp only [h8', if_false, p_codec_cut, Option.bind_some]
      by_cases hr : r.length < k.toNat
      · have hn : ¬ (1 ≤ k.toNat ∧ k.toNat ≤ 8 ∧ k.toNat ≤ r.length ∧ val (r.take k.toNat) < 9223372036854775808 ∧ (val (r.take k.toNat) : Int) ≤ most ∧ numL (val (r.take k.toNat)) = k :: r.take k.toNat) := by omega
        have hv : F_k08 [] = some (IntKind.i64.wrap (val [])) := p_codec_value [] (by simp)
        simp only [hr, if_true, hv, Option.bind_some, sTake, hn, if_false]
        rfl
      · have hlen : (r.take k.toNat).length = k.toNat := by rw [List.length_take]; omega
        have hlt := val_lt k.toNat (r.take k.toNat) hlen
        have h64 : val (r.take k.toNat) < 18446744073709551616 := Nat.lt_of_lt_of_le hlt (by
          have : (256 : Nat) ^ k.toNat ≤ 256 ^ 8 := Nat.pow_le_pow_right (by decide) (by omega)
          exact Nat.le_trans this (by decide))
        have hv := p_codec_value (r.take k.toNat) (by unfold Short; omega)
        have hlk : (mk [k]).size + (mk (r.take k.toNat)).size ≤ 9223372036854775807 := by rw [mk_size, mk_size, hlen]; simp; omega
        simp only [hr, if_false, hv, Option.bind_some, Bool.true_eq_false]
        have es : strOfNums [(k.toNat : Int)] = mk [k] := str_nums [k]
        simp only [es, str_nums, hlk, if_true, mk_app]
        obtain ⟨v, hv⟩ : ∃ v, v = val (r.take k.toNat) := ⟨_, rfl⟩
        rw [← hv] at h64
        simp only [sTake, ← hv]
        by_cases h63 : v < 9223372036854775808
        · have ew : IntKind.i64.wrap (v : Int) = v := wrap64 (by omega) (by omega)
          have e1 : ¬ ((v : Int) < 0) := by omega
          simp only [ew, e1, if_false]
          by_cases hm : most < (v : Int)
          · have hn : ¬ (1 ≤ k.toNat ∧ k.toNat ≤ 8 ∧ k.toNat ≤ r.length ∧ v < 9223372036854775808 ∧ (v : Int) ≤ most ∧ numL v = k :: r.take k.toNat) := by omega
            simp only [hm, if_true, hn, if_false]; rfl
          · simp only [hm, if_false, p_codec_Number v h63, Option.bind_some, mk_inj, List.singleton_append]
            by_cases hnl : numL v = k :: r.take k.toNat
            · have hk1 : 1 ≤ k.toNat := by
                have := congrArg List.length hnl
                simp only [numL, List.length_cons, hlen] at this
                have := nb_len v
                omega
              have hp : (1 ≤ k.toNat ∧ k.toNat ≤ 8 ∧ k.toNat ≤ r.length ∧ v < 9223372036854775808 ∧ (v : Int) ≤ most ∧ numL v = k :: r.take k.toNat) := ⟨hk1, by omega, by omega, h63, by omega, hnl⟩
              rw [if_pos hnl, if_pos hp]
              rfl
            · have hn : ¬ (1 ≤ k.toNat ∧ k.toNat ≤ 8 ∧ k.toNat ≤ r.length ∧ v < 9223372036854775808 ∧ (v : Int) ≤ most ∧ numL v = k :: r.take k.toNat) := fun h => hnl h.2.2.2.2.2
              rw [if_neg hnl, if_neg hn]
              rfl
        · have ew : IntKind.i64.wrap (v : Int) = (v : Int) - 18446744073709551616 := by
            rw [wrap_eq (y := (v : Int) - 18446744073709551616) (by omega), wrap64 (by omega) (by omega)]
          have e1 : ((v : Int) - 18446744073709551616 < 0) := by omega
          have hn : ¬ (1 ≤ k.toNat ∧ k.toNat ≤ 8 ∧ k.toNat ≤ r.length ∧ v < 9223372036854775808 ∧ (v : Int) ≤ most ∧ numL v = k :: r.take k.toNat) := fun h => h63 h.2.2.2.1
          simp only [ew, e1, if_true, hn, if_false]; rfl

end Go.Vm

/- Layer 3 and 4: the document's reading of numbers and texts, transactions as bytes. -/
set_option linter.unusedVariables false
set_option linter.unusedSimpArgs false
namespace Go.Vm
open Go Go.RowKit

theorem take_loop (k : UInt8) (r : List UInt8) (most : Int) (hk : k.toNat ≤ r.length) (h8 : k.toNat ≤ 8) :
    ∀ (m : List UInt8) (i : Nat) (n : Nat), (r.take k.toNat).drop i = m → i ≤ k.toNat →
      run (fun s : L_k61_0 => if s.i ≤ s.many then (if 0 ≤ s.i then s.s_[s.i.toNat]?.bind fun a => some (Sum.inl { s_ := s.s_, most := s.most, many := s.many, n := IntKind.i64.wrap (IntKind.i64.wrap (256 * s.n) + IntKind.i64.wrap ↑a.toNat), i := IntKind.i64.wrap (s.i + 1) }) else none) else some (Sum.inr (Sum.inl { s_ := s.s_, most := s.most, many := s.many, n := s.n, i := s.i } : L_k61_0 ⊕ (Int × ByteArray × Bool))))
        { s_ := mk (k :: r), most := most, many := k.toNat, n := IntKind.i64.wrap n, i := ((i + 1 : Nat) : Int) } = some (.inl { s_ := mk (k :: r), most := most, many := k.toNat, n := IntKind.i64.wrap (m.foldl (fun n b => n * 256 + b.toNat) n : Nat), i := ((k.toNat + 1 : Nat) : Int) })
  | [], i, n, hm, hi => by
    have hl : (r.take k.toNat).length = k.toNat := by rw [List.length_take]; omega
    have h1 := List.drop_eq_nil_iff.1 hm
    obtain rfl : i = k.toNat := by omega
    rw [run_eq]
    have h2 : ¬ (((k.toNat + 1 : Nat) : Int) ≤ (k.toNat : Int)) := by omega
    simp only [h2, if_false, List.foldl_nil]
  | b :: m, i, n, hm, hi => by
    have hl : (r.take k.toNat).length = k.toNat := by rw [List.length_take]; omega
    have hb : (r.take k.toNat)[i]? = some b := by
      have := congrArg (·[0]?) hm
      simpa using this
    have hd : (r.take k.toNat).drop (i + 1) = m := by
      have := congrArg List.tail hm
      simpa using this
    have hi2 := (List.getElem?_eq_some_iff.1 hb).1
    have hb2 : r[i]? = some b := by
      rw [List.getElem?_take] at hb
      split at hb
      · exact hb
      · cases hb
    rw [run_eq]
    have h2 : (((i + 1 : Nat) : Int) ≤ (k.toNat : Int)) := by omega
    have h3 : (0 : Int) ≤ ((i + 1 : Nat) : Int) := by omega
    have h4 : ((i + 1 : Nat) : Int).toNat = i + 1 := by omega
    have h5 : IntKind.i64.wrap (((i + 1 : Nat) : Int) + 1) = ((i + 1 + 1 : Nat) : Int) := by rw [wrap64 (by omega) (by omega)]; omega
    have hbt := b.toNat_lt
    have h6 : IntKind.i64.wrap (IntKind.i64.wrap (256 * IntKind.i64.wrap n) + IntKind.i64.wrap ↑b.toNat) = IntKind.i64.wrap ((n * 256 + b.toNat : Nat) : Int) := by
      apply wrap_eq
      have e1 := wrap_mod n
      have e2 := wrap_mod (256 * IntKind.i64.wrap n)
      have e3 := wrap_mod b.toNat
      omega
    simp only [h2, h3, h4, if_true, mk_get, List.getElem?_cons_succ, hb2, Option.bind_some, h5, h6]
    rw [take_loop k r most hk h8 m (i + 1) _ hd (by omega)]
    simp only [List.foldl_cons]

theorem p_r03_TakeNumber (l : List UInt8) (most : Int) (hl : Short l) : F_k61 (mk l) most = some (tkN (sTake most l)) := by
  simp only [F_k61, pk_k61, mk_size, mk_get, mk_nil]
  cases l with
  | nil => simp [sTake, tkN]
  | cons k r =>
    have hk := k.toNat_lt
    have hw : IntKind.i64.wrap (k.toNat : Int) = (k.toNat : Int) := wrap64 (by omega) (by omega)
    have hs : Short (k :: r) := hl
    simp only [Short, List.length_cons] at hs
    have hw2 : IntKind.i64.wrap (((k :: r).length : Int) - 1) = r.length := by rw [wrap64 (by simp only [List.length_cons]; omega) (by simp only [List.length_cons]; omega)]; simp only [List.length_cons]; omega
    have h0 : ¬ (((k :: r).length : Int) < 1) := by simp only [List.length_cons]; omega
    simp only [h0, if_false, List.getElem?_cons_zero, Option.bind_some, hw, hw2]
    by_cases h1 : (k.toNat : Int) < 1
    · have hn : ¬ (1 ≤ k.toNat ∧ k.toNat ≤ 8 ∧ k.toNat ≤ r.length ∧ val (r.take k.toNat) < 9223372036854775808 ∧ (val (r.take k.toNat) : Int) ≤ most ∧ numL (val (r.take k.toNat)) = k :: r.take k.toNat) := by omega
      simp only [h1, if_true, sTake, hn, if_false]; rfl
    by_cases h8 : (8 : Int) < k.toNat
    · have hn : ¬ (1 ≤ k.toNat ∧ k.toNat ≤ 8 ∧ k.toNat ≤ r.length ∧ val (r.take k.toNat) < 9223372036854775808 ∧ (val (r.take k.toNat) : Int) ≤ most ∧ numL (val (r.take k.toNat)) = k :: r.take k.toNat) := by omega
      simp only [h1, h8, if_true, sTake, hn, if_false]; rfl
    by_cases hr : (r.length : Int) < k.toNat
    · have hn : ¬ (1 ≤ k.toNat ∧ k.toNat ≤ 8 ∧ k.toNat ≤ r.length ∧ val (r.take k.toNat) < 9223372036854775808 ∧ (val (r.take k.toNat) : Int) ≤ most ∧ numL (val (r.take k.toNat)) = k :: r.take k.toNat) := by omega
      simp only [h1, h8, hr, if_true, sTake, hn, if_false]; rfl
    simp only [h1, h8, hr, if_false]
    have hlen : (r.take k.toNat).length = k.toNat := by rw [List.length_take]; omega
    have hrun := take_loop k r most (by omega) (by omega) (r.take k.toNat) 0 0 rfl (by omega)
    obtain ⟨v, hv⟩ : ∃ v, v = val (r.take k.toNat) := ⟨_, rfl⟩
    have hfold : (r.take k.toNat).foldl (fun n b => n * 256 + b.toNat) 0 = v := by rw [hv]; rfl
    rw [hfold] at hrun
    have hrun' : run (fun s : L_k61_0 => if s.i ≤ s.many then (if 0 ≤ s.i then s.s_[s.i.toNat]?.bind fun a => some (Sum.inl { s_ := s.s_, most := s.most, many := s.many, n := IntKind.i64.wrap (IntKind.i64.wrap (256 * s.n) + IntKind.i64.wrap ↑a.toNat), i := IntKind.i64.wrap (s.i + 1) }) else none) else some (Sum.inr (Sum.inl { s_ := s.s_, most := s.most, many := s.many, n := s.n, i := s.i } : L_k61_0 ⊕ (Int × ByteArray × Bool))))
        { s_ := mk (k :: r), most := most, many := k.toNat, n := 0, i := 1 } = some (.inl { s_ := mk (k :: r), most := most, many := k.toNat, n := IntKind.i64.wrap v, i := ((k.toNat + 1 : Nat) : Int) }) := hrun
    have tail : v < 9223372036854775808 → ((some (Sum.inl { s_ := mk (k :: r), most := most, many := k.toNat, n := IntKind.i64.wrap v, i := ((k.toNat + 1 : Nat) : Int) }) : Option (L_k61_0 ⊕ (Int × ByteArray × Bool))).bind (selim (fun s => (F_k60 s.n).bind fun a =>
        if 0 ≤ IntKind.i64.wrap (s.many + 1) ∧ IntKind.i64.wrap (s.many + 1) ≤ ↑s.s_.size then
          if a = s.s_.extract 0 (IntKind.i64.wrap (s.many + 1)).toNat then
            if s.most < s.n then some (0, mk [], false)
            else if 0 ≤ IntKind.i64.wrap (s.many + 1) ∧ IntKind.i64.wrap (s.many + 1) ≤ ↑s.s_.size then some (s.n, s.s_.extract (IntKind.i64.wrap (s.many + 1)).toNat s.s_.size, true) else none
          else some (0, mk [], false)
        else none) fun r => some r)) = some (tkN (sTake most (k :: r))) := by
      intro h63
      have ew : IntKind.i64.wrap (v : Int) = v := wrap64 (by omega) (by omega)
      have ek : IntKind.i64.wrap ((k.toNat : Int) + 1) = ((k.toNat + 1 : Nat) : Int) := by rw [wrap64 (by omega) (by omega)]; omega
      have ek2 : ((k.toNat + 1 : Nat) : Int).toNat = k.toNat + 1 := by omega
      have hc : (0 : Int) ≤ ((k.toNat + 1 : Nat) : Int) ∧ ((k.toNat + 1 : Nat) : Int) ≤ ((k :: r).length : Int) := by simp; omega
      simp only [Option.bind_some, selim, ew, ek, ek2, p_r03_Number v h63, mk_size, hc, and_self, if_true, mk_extract, mk_inj, List.take_succ_cons, List.drop_zero]
      simp only [sTake, ← hv]
      by_cases hnl : numL v = k :: r.take k.toNat
      · by_cases hm : most < (v : Int)
        · have hn : ¬ (1 ≤ k.toNat ∧ k.toNat ≤ 8 ∧ k.toNat ≤ r.length ∧ v < 9223372036854775808 ∧ (v : Int) ≤ most ∧ numL v = k :: r.take k.toNat) := by omega
          rw [if_pos hnl, if_pos hm, if_neg hn]; rfl
        · have hp : (1 ≤ k.toNat ∧ k.toNat ≤ 8 ∧ k.toNat ≤ r.length ∧ v < 9223372036854775808 ∧ (v : Int) ≤ most ∧ numL v = k :: r.take k.toNat) := ⟨by omega, by omega, by omega, h63, by omega, hnl⟩
          rw [if_pos hnl, if_neg hm, if_pos hp]
          simp [tkN]
      · have hn : ¬ (1 ≤ k.toNat ∧ k.toNat ≤ 8 ∧ k.toNat ≤ r.length ∧ v < 9223372036854775808 ∧ (v : Int) ≤ most ∧ numL v = k :: r.take k.toNat) := fun h => hnl h.2.2.2.2.2
        rw [if_neg hnl, if_neg hn]; rfl
    by_cases hk8 : (k.toNat : Int) = 8
    · rw [if_pos hk8]
      cases r with
      | nil => simp at hr; omega
      | cons b q =>
        have hb := b.toNat_lt
        have hk8' : k.toNat = 8 := by omega
        have hvq : v = b.toNat * 256 ^ 7 + val (q.take 7) := by
          rw [hv, hk8', List.take_succ_cons, val_cons]
          have h7 : (q.take 7).length = 7 := by
            rw [hk8'] at hlen
            simpa using hlen
          rw [h7]
        have hq := val_lt (q.take 7).length (q.take 7) rfl
        have hq7 : val (q.take 7) < 256 ^ 7 := Nat.lt_of_lt_of_le hq (Nat.pow_le_pow_right (by decide) (by simp [List.length_take]; omega))
        simp only [List.getElem?_cons_succ, List.getElem?_cons_zero, Option.bind_some]
        by_cases h127 : (127 : Int) < b.toNat
        · have hn : ¬ (1 ≤ k.toNat ∧ k.toNat ≤ 8 ∧ k.toNat ≤ (b :: q).length ∧ v < 9223372036854775808 ∧ (v : Int) ≤ most ∧ numL v = k :: (b :: q).take k.toNat) := fun h => by
            have := h.2.2.2.1; omega
          simp only [h127, if_true, sTake, ← hv, hn, if_false]; rfl
        · rw [if_neg h127]
          exact (congrArg (fun x => Option.bind x _) hrun').trans (tail (by omega))
    · rw [if_neg hk8]
      refine (congrArg (fun x => Option.bind x _) hrun').trans (tail ?_)
      have := val_lt k.toNat (r.take k.toNat) hlen
      rw [← hv] at this
      have h7 : (256 : Nat) ^ k.toNat ≤ 256 ^ 7 := Nat.pow_le_pow_right (by decide) (by omega)
      omega

def textL (d : List UInt8) : List UInt8 := UInt8.ofNat (d.length / 256) :: UInt8.ofNat (d.length % 256) :: d

theorem p_codec_Text (d : List UInt8) (hd : d.length ≤ 65535) : F_k06 (mk d) = some (mk (textL d)) := by
  simp only [F_k06, pk_k06, mk_size, fd, w8]
  have h0 : ¬ (65535 : Int) < d.length := by omega
  have e : strOfNums [((d.length / 256 % 256 : Nat) : Int), ((d.length % 256 : Nat) : Int)] = mk [UInt8.ofNat (d.length / 256), UInt8.ofNat (d.length % 256)] := by
    have := nums_map [d.length / 256 % 256, d.length % 256]
    simp only [List.map_cons, List.map_nil] at this
    rw [this]
    have e2 : d.length / 256 % 256 = d.length / 256 := by omega
    rw [e2]
  rw [if_neg h0, e, mk_size, if_pos (by simp; omega), mk_app]
  rfl

theorem p_r03_Text (d : List UInt8) (hd : d.length ≤ 65535) : F_k63 (mk d) = some (mk (textL d)) := by
  simp only [F_k63, pk_k63, mk_size]
  have h0 : ¬ (65535 : Int) < d.length := by omega
  have e1 : IntKind.i64.wrap ((d.length : Int) / 256) = ((d.length / 256 : Nat) : Int) := by rw [wrap64 (by omega) (by omega)]; omega
  have e2 : ((d.length : Int)).tmod 256 = ((d.length % 256 : Nat) : Int) := by rw [Int.tmod_eq_emod_of_nonneg (by omega)]; omega
  have e : strOfNums [((d.length / 256 % 256 : Nat) : Int), ((d.length % 256 % 256 : Nat) : Int)] = mk [UInt8.ofNat (d.length / 256), UInt8.ofNat (d.length % 256)] := by
    have := nums_map [d.length / 256 % 256, d.length % 256 % 256]
    simp only [List.map_cons, List.map_nil] at this
    rw [this]
    have e2 : d.length / 256 % 256 = d.length / 256 := by omega
    have e3 : d.length % 256 % 256 = d.length % 256 := by omega
    rw [e2, e3]
  rw [if_neg h0, e1, e2, w8, w8, e, mk_size, if_pos (by simp; omega), mk_app]
  rfl

def sText : List UInt8 → Option (List UInt8 × List UInt8)
  | a :: b :: r => if a.toNat * 256 + b.toNat ≤ 256 ∧ a.toNat * 256 + b.toNat ≤ r.length then some (r.take (a.toNat * 256 + b.toNat), r.drop (a.toNat * 256 + b.toNat)) else none
  | _ => none

def tkT : Option (List UInt8 × List UInt8) → ByteArray × ByteArray × Bool
  | some (d, r) => (mk d, mk r, true)
  | none => (mk [], mk [], false)

theorem sText_iff (l d r : List UInt8) : sText l = some (d, r) ↔ (l = textL d ++ r ∧ d.length ≤ 256) := by
  constructor
  · intro h
    unfold sText at h
    split at h
    · rename_i a b q
      split at h
      · rename_i hc
        simp only [Option.some.injEq, Prod.mk.injEq] at h
        obtain ⟨rfl, rfl⟩ := h
        have ha := a.toNat_lt
        have hb := b.toNat_lt
        have hl : (q.take (a.toNat * 256 + b.toNat)).length = a.toNat * 256 + b.toNat := by rw [List.length_take]; omega
        refine ⟨?_, by omega⟩
        unfold textL
        rw [hl]
        have e1 : (a.toNat * 256 + b.toNat) / 256 = a.toNat := by omega
        have e2 : (a.toNat * 256 + b.toNat) % 256 = b.toNat := by omega
        rw [e1, e2]
        simp
      · cases h
    · cases h
  · rintro ⟨rfl, hd⟩
    have e1 : (UInt8.ofNat (d.length / 256)).toNat * 256 + (UInt8.ofNat (d.length % 256)).toNat = d.length := by simp; omega
    simp only [textL, List.cons_append, sText, e1, List.take_left, List.drop_left, List.length_append]
    rw [if_pos (by omega)]

theorem p_codec_TakeText (l : List UInt8) (hl : Short l) : F_k05 (mk l) 256 = some (tkT (sText l)) := by
  simp only [F_k05, pk_k05, mk_nil]
  have hc2 : F_k07 (mk l) 2 = _ := p_codec_cut l 2
  rw [hc2]
  match l with
  | [] => simp [sText, tkT]
  | [a] => simp [sText, tkT]
  | a :: b :: r =>
    have ha := a.toNat_lt
    have hb := b.toNat_lt
    have h0 : ¬ ((a :: b :: r).length < 2) := by simp
    have hv : F_k08 [(a.toNat : Int), (b.toNat : Int)] = some (((a.toNat * 256 + b.toNat : Nat) : Int)) := by
      have := p_codec_value [a, b] (by simp)
      simp only [List.map_cons, List.map_nil] at this
      rw [this]
      have e : val [a, b] = a.toNat * 256 + b.toNat := by simp [val]
      rw [e, wrap64 (by omega) (by omega)]
    simp only [h0, if_false, Option.bind_some, List.take_succ_cons, List.take_zero, List.map_cons, List.map_nil, List.drop_succ_cons, List.drop_zero, Bool.true_eq_false, hv, p_codec_cut]
    simp only [sText]
    by_cases h1 : (256 : Int) < ((a.toNat * 256 + b.toNat : Nat) : Int)
    · have hn : ¬ (a.toNat * 256 + b.toNat ≤ 256 ∧ a.toNat * 256 + b.toNat ≤ r.length) := by omega
      rw [if_pos h1, if_neg hn]; rfl
    · rw [if_neg h1]
      by_cases h2 : r.length < a.toNat * 256 + b.toNat
      · have hn : ¬ (a.toNat * 256 + b.toNat ≤ 256 ∧ a.toNat * 256 + b.toNat ≤ r.length) := by omega
        simp only [h2, if_true, hn, if_false]; rfl
      · have hp : (a.toNat * 256 + b.toNat ≤ 256 ∧ a.toNat * 256 + b.toNat ≤ r.length) := by omega
        simp only [h2, if_false, hp, and_self, if_true, str_nums, Bool.true_eq_false]; rfl

theorem p_r03_TakeText (l : List UInt8) (hl : Short l) : F_k62 (mk l) 256 = some (tkT (sText l)) := by
  simp only [F_k62, pk_k62, mk_nil, mk_size, mk_get]
  match l with
  | [] => simp [sText, tkT]
  | [a] => simp [sText, tkT]
  | a :: b :: r =>
    have ha := a.toNat_lt
    have hb := b.toNat_lt
    have hs : Short (a :: b :: r) := hl
    simp only [Short, List.length_cons] at hs
    have h0 : ¬ (((a :: b :: r).length : Int) < 2) := by simp only [List.length_cons]; omega
    have e1 : IntKind.i64.wrap (IntKind.i64.wrap (256 * IntKind.i64.wrap a.toNat) + IntKind.i64.wrap b.toNat) = ((a.toNat * 256 + b.toNat : Nat) : Int) := by
      rw [wrap64 (n := (a.toNat : Int)) (by omega) (by omega), wrap64 (n := (b.toNat : Int)) (by omega) (by omega), wrap64 (n := 256 * (a.toNat : Int)) (by omega) (by omega), wrap64 (by omega) (by omega)]; omega
    have e2 : IntKind.i64.wrap (((a :: b :: r).length : Int) - 2) = r.length := by rw [wrap64 (by simp only [List.length_cons]; omega) (by simp only [List.length_cons]; omega)]; simp only [List.length_cons]; omega
    have e3 : IntKind.i64.wrap (((a.toNat * 256 + b.toNat : Nat) : Int) + 2) = ((a.toNat * 256 + b.toNat + 2 : Nat) : Int) := by rw [wrap64 (by omega) (by omega)]; omega
    have e4 : ((a.toNat * 256 + b.toNat + 2 : Nat) : Int).toNat = a.toNat * 256 + b.toNat + 2 := by omega
    simp only [h0, if_false, List.getElem?_cons_zero, List.getElem?_cons_succ, Option.bind_some, e1, e2, e3, e4]
    simp only [sText]
    by_cases h1 : (256 : Int) < ((a.toNat * 256 + b.toNat : Nat) : Int)
    · have hn : ¬ (a.toNat * 256 + b.toNat ≤ 256 ∧ a.toNat * 256 + b.toNat ≤ r.length) := by omega
      rw [if_pos h1, if_neg hn]; rfl
    · rw [if_neg h1]
      by_cases h2 : (r.length : Int) < ((a.toNat * 256 + b.toNat : Nat) : Int)
      · have hn : ¬ (a.toNat * 256 + b.toNat ≤ 256 ∧ a.toNat * 256 + b.toNat ≤ r.length) := by omega
        rw [if_pos h2, if_neg hn]; rfl
      · have hp : (a.toNat * 256 + b.toNat ≤ 256 ∧ a.toNat * 256 + b.toNat ≤ r.length) := by omega
        have hc1 : (2 : Int) ≤ ((a.toNat * 256 + b.toNat + 2 : Nat) : Int) ∧ ((a.toNat * 256 + b.toNat + 2 : Nat) : Int) ≤ ((a :: b :: r).length : Int) := by simp only [List.length_cons]; omega
        have hc2 : (0 : Int) ≤ ((a.toNat * 256 + b.toNat + 2 : Nat) : Int) ∧ ((a.toNat * 256 + b.toNat + 2 : Nat) : Int) ≤ ((a :: b :: r).length : Int) := by simp only [List.length_cons]; omega
        rw [if_neg h2, if_pos hc1, if_pos hc2, if_pos hp]
        simp only [mk_extract, tkT, List.take_succ_cons, List.drop_succ_cons, List.drop_zero, List.take_length]

def encL (t : Tx) : List UInt8 := 1 :: (numL t.sender.toNat ++ (numL t.nonce.toNat ++ (numL t.tip.toNat ++ (numL t.cap.toNat ++ (numL t.gas.toNat ++ textL (L t.data))))))

theorem numL_len {n : Nat} (h : n < 9223372036854775808) : (numL n).length ≤ 9 := by
  have := nb8 h
  simp [numL]; omega

theorem sTx_spec {t : Tx} (h : sTx t = true) : 0 ≤ t.sender ∧ t.sender ≤ 255 ∧ 0 ≤ t.nonce ∧ t.nonce ≤ 4294967295 ∧ 0 ≤ t.tip ∧ t.tip ≤ 1099511627776 ∧ t.tip ≤ t.cap ∧ t.cap ≤ 1099511627776 ∧ 1 ≤ t.gas ∧ t.gas ≤ 1073741824 ∧ t.data.size ≤ 256 := of_decide_eq_true h

theorem L_len (s : ByteArray) : (L s).length = s.size := by unfold L; rw [Array.length_toList]; rfl

theorem num_int (F : Int → Option ByteArray) (hF : ∀ n : Nat, n < 9223372036854775808 → F n = some (mk (numL n))) {n : Int} (h0 : 0 ≤ n) (h1 : n ≤ 1099511627776) : F n = some (mk (numL n.toNat)) := by
  have := hF n.toNat (by omega)
  rwa [Int.toNat_of_nonneg h0] at this

theorem p_txn_Encode (t : Tx) : F_kd0 t = some (if sTx t = true then (mk (encL t), true) else (mk [], false)) := by
  simp only [F_kd0, pk_kd0, p_txn_Check, Option.bind_some, mk_nil]
  cases h : sTx t with
  | false => simp
  | true =>
    obtain ⟨h1, h2, h3, h4, h5, h6, h7, h8, h9, h10, h11⟩ := sTx_spec h
    have hN : ∀ {n : Int}, 0 ≤ n → n ≤ 1099511627776 → F_k03 n = some (mk (numL n.toNat)) := fun h0 h1 => num_int F_k03 p_codec_Number h0 h1
    have l1 := numL_len (n := t.sender.toNat) (by omega)
    have l2 := numL_len (n := t.nonce.toNat) (by omega)
    have l3 := numL_len (n := t.tip.toNat) (by omega)
    have l4 := numL_len (n := t.cap.toNat) (by omega)
    have l5 := numL_len (n := t.gas.toNat) (by omega)
    have l6 := L_len t.data
    have l7 : (textL (L t.data)).length = t.data.size + 2 := by simp [textL, l6]
    have hT : F_k06 t.data = some (mk (textL (L t.data))) := by
      have := p_codec_Text (L t.data) (by omega)
      rwa [mk_L] at this
    have e1 : ({ data := #[1] } : ByteArray) = mk [1] := rfl
    simp only [Bool.true_eq_false, if_false, hN h1 (by omega), hN h3 (by omega), hN h5 (by omega), hN (show 0 ≤ t.cap by omega) (by omega), hN (show 0 ≤ t.gas by omega) (by omega), hT, Option.bind_some, e1, mk_size, List.length_singleton, l7]
    rw [if_pos (by omega), if_pos (by omega), if_pos (by omega), if_pos (by omega), if_pos (by omega), if_pos (by omega), if_pos (by omega), if_pos (by omega), if_pos (by omega)]
    simp only [mk_app, if_true, encL, List.singleton_append]

theorem p_r04_Encode (t : Tx) : F_k68 t = some (if sTx t = true then (mk (encL t), true) else (mk [], false)) := by
  simp only [F_k68, pk_k68, p_r04_Check, Option.bind_some, mk_nil]
  cases h : sTx t with
  | false => simp
  | true =>
    obtain ⟨h1, h2, h3, h4, h5, h6, h7, h8, h9, h10, h11⟩ := sTx_spec h
    have hN : ∀ {n : Int}, 0 ≤ n → n ≤ 1099511627776 → F_k60 n = some (mk (numL n.toNat)) := fun h0 h1 => num_int F_k60 p_r03_Number h0 h1
    have l1 := numL_len (n := t.sender.toNat) (by omega)
    have l2 := numL_len (n := t.nonce.toNat) (by omega)
    have l3 := numL_len (n := t.tip.toNat) (by omega)
    have l4 := numL_len (n := t.cap.toNat) (by omega)
    have l5 := numL_len (n := t.gas.toNat) (by omega)
    have l6 := L_len t.data
    have l7 : (textL (L t.data)).length = t.data.size + 2 := by simp [textL, l6]
    have hT : F_k63 t.data = some (mk (textL (L t.data))) := by
      have := p_r03_Text (L t.data) (by omega)
      rwa [mk_L] at this
    have e1 : ({ data := #[1] } : ByteArray) = mk [1] := rfl
    simp only [Bool.true_eq_false, if_false, hN h1 (by omega), hN h3 (by omega), hN h5 (by omega), hN (show 0 ≤ t.cap by omega) (by omega), hN (show 0 ≤ t.gas by omega) (by omega), hT, Option.bind_some, e1, mk_size, List.length_singleton, l7]
    rw [if_pos (by omega), if_pos (by omega), if_pos (by omega), if_pos (by omega), if_pos (by omega), if_pos (by omega)]
    simp only [mk_app, if_true, encL, List.singleton_append, List.append_assoc, List.cons_append, List.nil_append]

def sDec : List UInt8 → Option Tx
  | [] => none
  | x :: r => if x = 1 then (sTake 1099511627776 r).bind fun p1 => (sTake 1099511627776 p1.2).bind fun p2 => (sTake 1099511627776 p2.2).bind fun p3 => (sTake 1099511627776 p3.2).bind fun p4 => (sTake 1099511627776 p4.2).bind fun p5 =>
      (sText p5.2).bind fun q => if q.2 = [] ∧ sTx ⟨p1.1, p2.1, p3.1, p4.1, p5.1, mk q.1⟩ = true then some ⟨p1.1, p2.1, p3.1, p4.1, p5.1, mk q.1⟩ else none
    else none

def decR : Option Tx → Tx × Bool
  | some t => (t, true)
  | none => (zTx, false)

theorem sTake_short {m : Int} {l : List UInt8} {v : Nat} {r : List UInt8} (h : sTake m l = some (v, r)) (hl : Short l) : Short r := by
  obtain ⟨rfl, _, _⟩ := (sTake_iff m l v r).1 h
  simp only [Short, List.length_append] at hl ⊢
  omega

theorem p_CutPrefix (l : List UInt8) : F_kbe (mk l) (mk [1]) = some (match l with | [] => (mk [], false) | x :: r => if x = 1 then (mk r, true) else (mk (x :: r), false)) := by
  simp only [F_kbe, pk_kbe, F_kbc, pk_kbc, F_kbd, pk_kbd, mk_size, mk_extract]
  cases l with
  | nil => simp
  | cons x r =>
    have h1 : [(1 : UInt8)].length ≤ (x :: r).length := by simp
    rw [if_pos h1, if_pos h1]
    by_cases hx : x = 1
    · subst hx
      simp [mk_inj]
    · have : ¬ (mk [x] = mk [1]) := fun h => hx (by simpa using mk_inj.1 h)
      simp [this, hx]

theorem p_txn_Decode (l : List UInt8) (hl : Short l) : F_kcf (mk l) = some (decR (sDec l)) := by
  simp only [F_kcf, pk_kcf]
  have e1 : ({ data := #[1] } : ByteArray) = mk [1] := rfl
  rw [e1, p_CutPrefix]
  cases l with
  | nil => rfl
  | cons x r =>
    have hr : Short r := by simp only [Short, List.length_cons] at hl ⊢; omega
    by_cases hx : x = 1
    · simp only [hx, if_true, Option.bind_some, Bool.true_eq_false, if_false, sDec]
      rw [p_codec_TakeNumber r _ hr]
      cases h1 : sTake 1099511627776 r with
      | none => rfl
      | some p1 =>
      obtain ⟨v1, r1⟩ := p1
      have s1 := sTake_short h1 hr
      simp only [Option.bind_some, tkN, Bool.true_eq_false, if_false, p_codec_TakeNumber r1 _ s1]
      cases h2 : sTake 1099511627776 r1 with
      | none => rfl
      | some p2 =>
      obtain ⟨v2, r2⟩ := p2
      have s2 := sTake_short h2 s1
      simp only [Option.bind_some, tkN, Bool.true_eq_false, if_false, p_codec_TakeNumber r2 _ s2]
      cases h3 : sTake 1099511627776 r2 with
      | none => rfl
      | some p3 =>
      obtain ⟨v3, r3⟩ := p3
      have s3 := sTake_short h3 s2
      simp only [Option.bind_some, tkN, Bool.true_eq_false, if_false, p_codec_TakeNumber r3 _ s3]
      cases h4 : sTake 1099511627776 r3 with
      | none => rfl
      | some p4 =>
      obtain ⟨v4, r4⟩ := p4
      have s4 := sTake_short h4 s3
      simp only [Option.bind_some, tkN, Bool.true_eq_false, if_false, p_codec_TakeNumber r4 _ s4]
      cases h5 : sTake 1099511627776 r4 with
      | none => rfl
      | some p5 =>
      obtain ⟨v5, r5⟩ := p5
      have s5 := sTake_short h5 s4
      simp only [Option.bind_some, tkN, Bool.true_eq_false, if_false, p_codec_TakeText r5 s5]
      cases h6 : sText r5 with
      | none => rfl
      | some q =>
      obtain ⟨d, r6⟩ := q
      simp only [Option.bind_some, tkT, Bool.true_eq_false, if_false, mk_nil, mk_inj, p_txn_Check]
      by_cases h7 : r6 = []
      · cases h8 : sTx ⟨v1, v2, v3, v4, v5, mk d⟩ with
        | true => simp only [h7, if_true, Bool.true_eq_false, if_false, and_self]; rfl
        | false => simp only [h7, if_true, Bool.false_eq_true, and_false, if_false]; rfl
      · simp only [h7, if_false, false_and]; rfl
    · simp only [hx, if_false, Option.bind_some, sDec, if_true]; rfl

theorem p_r04_Decode (l : List UInt8) (hl : Short l) : F_k67 (mk l) = some (decR (sDec l)) := by
  simp only [F_k67, pk_k67, mk_nil, mk_inj, mk_size, mk_extract]
  cases l with
  | nil => rfl
  | cons x r =>
    have hr : Short r := by simp only [Short, List.length_cons] at hl ⊢; omega
    have h0 : (1 : Int) ≤ ((x :: r).length : Int) := by simp only [List.length_cons]; omega
    simp only [List.cons_ne_nil, reduceCtorEq, if_false, h0, if_true, List.take_length, List.drop_succ_cons, List.drop_zero]
    rw [p_r03_TakeNumber r _ hr]
    cases h1 : sTake 1099511627776 r with
    | none =>
      by_cases hx : x = 1 <;> simp [sDec, h1, hx, tkN, decR, zTx]
    | some p1 =>
    obtain ⟨v1, r1⟩ := p1
    have s1 := sTake_short h1 hr
    simp only [Option.bind_some, tkN, Bool.true_eq_false, if_false, p_r03_TakeNumber r1 _ s1]
    cases h2 : sTake 1099511627776 r1 with
    | none =>
      by_cases hx : x = 1 <;> simp [sDec, h1, h2, hx, tkN, decR, zTx]
    | some p2 =>
    obtain ⟨v2, r2⟩ := p2
    have s2 := sTake_short h2 s1
    simp only [Option.bind_some, tkN, Bool.true_eq_false, if_false, p_r03_TakeNumber r2 _ s2]
    cases h3 : sTake 1099511627776 r2 with
    | none =>
      by_cases hx : x = 1 <;> simp [sDec, h1, h2, h3, hx, tkN, decR, zTx]
    | some p3 =>
    obtain ⟨v3, r3⟩ := p3
    have s3 := sTake_short h3 s2
    simp only [Option.bind_some, tkN, Bool.true_eq_false, if_false, p_r03_TakeNumber r3 _ s3]
    cases h4 : sTake 1099511627776 r3 with
    | none =>
      by_cases hx : x = 1 <;> simp [sDec, h1, h2, h3, h4, hx, tkN, decR, zTx]
    | some p4 =>
    obtain ⟨v4, r4⟩ := p4
    have s4 := sTake_short h4 s3
    simp only [Option.bind_some, tkN, Bool.true_eq_false, if_false, p_r03_TakeNumber r4 _ s4]
    cases h5 : sTake 1099511627776 r4 with
    | none =>
      by_cases hx : x = 1 <;> simp [sDec, h1, h2, h3, h4, h5, hx, tkN, decR, zTx]
    | some p5 =>
    obtain ⟨v5, r5⟩ := p5
    have s5 := sTake_short h5 s4
    have g1 := ((sTake_iff _ _ _ _).1 h1).1
    have g2 := ((sTake_iff _ _ _ _).1 h2).1
    have g3 := ((sTake_iff _ _ _ _).1 h3).1
    have g4 := ((sTake_iff _ _ _ _).1 h4).1
    have g5 := ((sTake_iff _ _ _ _).1 h5).1
    have hD : sDec (x :: r) = if x = 1 then ((sText r5).bind fun q => if q.2 = [] ∧ sTx ⟨v1, v2, v3, v4, v5, mk q.1⟩ = true then some ⟨v1, v2, v3, v4, v5, mk q.1⟩ else none) else none := by
      simp only [sDec, h1, h2, h3, h4, h5, Option.bind_some]
    have henc : ∀ d, encL ⟨v1, v2, v3, v4, v5, mk d⟩ = x :: r ↔ (x = 1 ∧ r5 = textL d) := by
      intro d
      simp only [encL, L_mk, Int.toNat_natCast, List.cons.injEq]
      rw [g1, g2, g3, g4, g5]
      simp only [List.append_cancel_left_eq]
      exact ⟨fun h => ⟨h.1.symm, h.2.symm⟩, fun h => ⟨h.1.symm, h.2.symm⟩⟩
    simp only [Option.bind_some, tkN, Bool.true_eq_false, if_false, p_r03_TakeText r5 s5, p_r04_Encode]
    rw [hD]
    cases h6 : sText r5 with
    | none =>
      simp only [tkT, Option.bind_none]
      have hne : ¬ (encL ⟨v1, v2, v3, v4, v5, mk []⟩ = x :: r) := by
        rw [henc]
        rintro ⟨_, h⟩
        have := (sText_iff r5 [] []).2 ⟨by rw [h]; simp, by simp⟩
        rw [h6] at this; cases this
      by_cases h8 : sTx ⟨v1, v2, v3, v4, v5, mk []⟩ = true
      · simp only [h8, if_true, Bool.true_eq_false, if_false, mk_inj, hne, ite_self]; rfl
      · simp only [h8, Bool.false_eq_true, if_false, if_true, ite_self]; rfl
    | some q =>
      obtain ⟨d, r6⟩ := q
      simp only [tkT, Option.bind_some]
      obtain ⟨g6, hd⟩ := (sText_iff _ _ _).1 h6
      have he : encL ⟨v1, v2, v3, v4, v5, mk d⟩ = x :: r ↔ (x = 1 ∧ r6 = []) := by
        rw [henc, g6]
        simp
      by_cases h8 : sTx ⟨v1, v2, v3, v4, v5, mk d⟩ = true
      · simp only [h8, if_true, Bool.true_eq_false, if_false, mk_inj, and_true]
        by_cases h9 : x = 1 ∧ r6 = []
        · rw [if_pos (he.2 h9), if_pos h9.1, if_pos h9.2]; rfl
        · rw [if_neg (fun h => h9 (he.1 h))]
          by_cases hx : x = 1
          · rw [if_pos hx, if_neg (fun h => h9 ⟨hx, h⟩)]; rfl
          · rw [if_neg hx]; rfl
      · simp only [h8, Bool.false_eq_true, if_false, and_false, if_true, ite_self]; rfl

theorem sDec_enc (t : Tx) (h : sTx t = true) : sDec (encL t) = some t := by
  obtain ⟨h1, h2, h3, h4, h5, h6, h7, h8, h9, h10, h11⟩ := sTx_spec h
  have ht : (⟨t.sender.toNat, t.nonce.toNat, t.tip.toNat, t.cap.toNat, t.gas.toNat, mk (L t.data)⟩ : Tx) = t := by
    rw [Int.toNat_of_nonneg h1, Int.toNat_of_nonneg h3, Int.toNat_of_nonneg h5, Int.toNat_of_nonneg (by omega), Int.toNat_of_nonneg (by omega), mk_L]
  have e6 : sText (textL (L t.data)) = some (L t.data, []) := (sText_iff _ _ _).2 ⟨by simp, by rw [L_len]; omega⟩
  simp only [encL, sDec, if_true]
  rw [(sTake_iff _ _ t.sender.toNat _).2 ⟨rfl, by omega, by omega⟩]
  simp only [Option.bind_some]
  rw [(sTake_iff _ _ t.nonce.toNat _).2 ⟨rfl, by omega, by omega⟩]
  simp only [Option.bind_some]
  rw [(sTake_iff _ _ t.tip.toNat _).2 ⟨rfl, by omega, by omega⟩]
  simp only [Option.bind_some]
  rw [(sTake_iff _ _ t.cap.toNat _).2 ⟨rfl, by omega, by omega⟩]
  simp only [Option.bind_some]
  rw [(sTake_iff _ _ t.gas.toNat _).2 ⟨rfl, by omega, by omega⟩]
  simp only [Option.bind_some, e6, ht, h, and_self, if_true]

theorem sDec_ok {l : List UInt8} {t : Tx} (h : sDec l = some t) : sTx t = true := by
  unfold sDec at h
  split at h
  · cases h
  · split at h
    · simp only [Option.bind_eq_some_iff] at h
      obtain ⟨p1, _, p2, _, p3, _, p4, _, p5, _, q, _, h⟩ := h
      split at h
      · rename_i hc
        injection h with h
        rw [← h]; exact hc.2
      · cases h
    · cases h

def sTs (t : Tx) : Int := if sTx t = true then sSl (encL t).length else 0

theorem sSl_range (n : Int) : 0 ≤ sSl n ∧ sSl n ≤ 13 := by
  unfold sSl; split <;> omega

theorem sTs_range (t : Tx) : 0 ≤ sTs t ∧ sTs t ≤ 13 := by
  unfold sTs
  split
  · exact sSl_range _
  · omega

theorem p_txn_Slots (t : Tx) : F_kd1 t = some (sTs t) := by
  simp only [F_kd1, pk_kd1, p_txn_Encode, Option.bind_some, sTs]
  cases h : sTx t with
  | true => simp [mk_size, p_sat_Slots]
  | false => simp

theorem p_r04_Slots (t : Tx) : F_k6a t = some (sTs t) := by
  simp only [F_k6a, pk_k6a, p_r04_Encode, Option.bind_some, sTs]
  cases h : sTx t with
  | true => simp [mk_size, p_r01_Slots]
  | false => simp

end Go.Vm

/- Layer 5, an account's transactions. -/
set_option linter.unusedVariables false
set_option linter.unusedSimpArgs false
namespace Go.Vm
open Go Go.RowKit

theorem sPl_found (n : Int) : ∀ (l : List Tx) (i : Nat) (b : Option Nat) (t : Tx), l.find? (fun t => decide (t.nonce = n)) = some t →
    ∃ j, sPl n i b l = (i + j, true) ∧ l[j]? = some t ∧ ∀ x, x.nonce = n → l.set j x = sRep x l
  | [], i, b, t, h => by cases h
  | y :: l, i, b, t, h => by
    by_cases hy : y.nonce = n
    · rw [List.find?_cons_of_pos (by simpa using hy)] at h
      injection h with h; subst h
      exact ⟨0, by simp [sPl, hy], rfl, fun x hx => by simp [sRep, hy, hx]⟩
    · rw [List.find?_cons_of_neg (by simpa using hy)] at h
      have key : ∀ b', ∃ j, sPl n (i + 1) b' l = (i + j, true) ∧ (y :: l)[j]? = some t ∧ ∀ x, x.nonce = n → (y :: l).set j x = sRep x (y :: l) := by
        intro b'
        obtain ⟨j, h1, h2, h3⟩ := sPl_found n l (i + 1) b' t h
        refine ⟨j + 1, by rw [h1]; congr 1; omega, by simpa using h2, fun x hx => ?_⟩
        have hyx : ¬ y.nonce = x.nonce := by rw [hx]; exact hy
        simp [sRep, hyx, h3 x hx]
      by_cases hb : n < y.nonce ∧ b = none
      · simpa [sPl, hy, hb] using key (some i)
      · simpa only [sPl, hy, hb, if_false] using key b

theorem sPl_none (n : Int) : ∀ (l : List Tx) (i : Nat) (b : Option Nat), l.find? (fun t => decide (t.nonce = n)) = none →
    ∃ j, j ≤ l.length ∧ sPl n i b l = (b.getD (i + j), false) ∧ ∀ x, x.nonce = n → l.take j ++ x :: l.drop j = sIns x l
  | [], i, b, h => ⟨0, by simp, by simp [sPl], fun x hx => by simp [sIns]⟩
  | y :: l, i, b, h => by
    have hy : ¬ y.nonce = n := by
      intro hy
      rw [List.find?_cons_of_pos (by simpa using hy)] at h; cases h
    rw [List.find?_cons_of_neg (by simpa using hy)] at h
    by_cases hn : n < y.nonce
    · obtain ⟨j, h1, h2, h3⟩ := sPl_none n l (i + 1) (some (b.getD i)) h
      refine ⟨0, by simp, ?_, fun x hx => ?_⟩
      · cases b with
        | none => simpa [sPl, hy, hn] using h2
        | some b =>
          obtain ⟨j', _, h2', _⟩ := sPl_none n l (i + 1) (some b) h
          simpa [sPl, hy, hn] using h2'
      · have : x.nonce < y.nonce := by rw [hx]; exact hn
        simp [sIns, this]
    · obtain ⟨j, h1, h2, h3⟩ := sPl_none n l (i + 1) b h
      refine ⟨j + 1, by simpa using h1, ?_, fun x hx => ?_⟩
      · have e : i + (j + 1) = i + 1 + j := by omega
        simp only [sPl, hy, hn, if_false, false_and, h2, e]
      · have : ¬ x.nonce < y.nonce := by rw [hx]; exact hn
        simp [sIns, this, h3 x hx]

theorem p_queue_Find (a : Acc) (n : Int) (hl : Short a.txs) : F_k54 a n = some (sFind a.txs n) := by
  simp only [F_k54, pk_k54, p_queue_place _ n hl, Option.bind_some, sFind]
  cases h : a.txs.find? (fun t => decide (t.nonce = n)) with
  | none =>
    obtain ⟨j, _, h2, _⟩ := sPl_none n a.txs 0 none h
    rw [h2]; rfl
  | some t =>
    obtain ⟨j, h1, h2, _⟩ := sPl_found n a.txs 0 none t h
    rw [h1]
    have h0 : (0 : Int) ≤ ((0 + j : Nat) : Int) := by omega
    have e : ((0 + j : Nat) : Int).toNat = j := by omega
    simp only [Bool.true_eq_false, if_false, h0, if_true, e, h2, Option.bind_some]

theorem p_Clone (l : List Tx) (hl : Short l) : F_kb3 l = some l := by
  simp only [F_kb3, pk_kb3]
  have h56 : l.length * 56 ≤ 140737488355328 := room56 (by have := hl; omega)
  cases l with
  | nil => simp [wboth]
  | cons x l =>
    rw [if_neg (List.cons_ne_nil _ _), if_pos h56, if_neg (List.cons_ne_nil _ _)]

theorem p_queue_Put (a : Acc) (t : Tx) (hl : Short a.txs) : F_k56 a t = some (sPut a t) := by
  simp only [F_k56, pk_k56, p_queue_place _ t.nonce hl, p_Clone _ hl, Option.bind_some, sPut, sPutL]
  cases h : a.txs.find? (fun x => decide (x.nonce = t.nonce)) with
  | none =>
    obtain ⟨j, h1, h2, h3⟩ := sPl_none t.nonce a.txs 0 none h
    have hf : sFind a.txs t.nonce = (zTx, false) := by unfold sFind; rw [h]
    rw [h2, hf]
    have hs : a.txs.length ≤ 1099511627776 := hl
    have e1 : (none : Option Nat).getD (0 + j) = j := by simp
    have e2 : ((j : Nat) : Int).toNat = j := by omega
    have hc : (0 : Int) ≤ (j : Int) ∧ (j : Int) ≤ a.txs.length ∧ (a.txs.length + 1) * 56 ≤ 140737488355328 := ⟨by omega, by omega, room56 (by omega)⟩
    have hm : min j a.txs.length + (a.txs.length - j + 1) = a.txs.length + 1 := by omega
    simp only [e1, e2, Bool.false_eq_true, if_false]
    rw [if_pos hc, if_pos hm, h3 t rfl]
  | some x =>
    obtain ⟨j, h1, h2, h3⟩ := sPl_found t.nonce a.txs 0 none x h
    have hf : sFind a.txs t.nonce = (x, true) := by unfold sFind; rw [h]
    rw [h1, hf]
    have hj := (List.getElem?_eq_some_iff.1 h2).1
    have e2 : ((0 + j : Nat) : Int).toNat = j := by omega
    have hc : (0 : Int) ≤ ((0 + j : Nat) : Int) ∧ ((0 + j : Nat) : Int) < a.txs.length := by omega
    simp only [if_true, e2]
    rw [if_pos hc, h2]
    simp only [Option.bind_some]
    rw [if_pos hj, h3 t rfl]

def sQ (l : List Tx) : Int := (l.map sTs).sum

theorem sQ_range (l : List Tx) : 0 ≤ sQ l ∧ sQ l ≤ 13 * (l.length : Int) := by
  induction l with
  | nil => simp [sQ]
  | cons t l ih =>
    have := sTs_range t
    simp only [sQ, List.map_cons, List.sum_cons, List.length_cons] at ih ⊢
    omega

theorem slots_loop {β : Type} (fin : Int → Option β) : ∀ (l : List Tx) (i : Nat) (n : Int), i + l.length ≤ 1099511627776 → 0 ≤ n → n ≤ 13 * (i : Int) →
    loopL (fun _ n t => some (.inl (IntKind.i64.wrap (n + sTs t)))) fin i n l = fin (n + sQ l)
  | [], i, n, h, h0, h1 => by simp [loopL, sQ]
  | t :: l, i, n, h, h0, h1 => by
    simp only [List.length_cons] at h
    have ht := sTs_range t
    unfold loopL
    simp only
    rw [wrap64 (by omega) (by omega), slots_loop fin l (i + 1) _ (by omega) (by omega) (by omega)]
    simp [sQ, Int.add_assoc]

theorem p_queue_Slots (a : Acc) (hl : Short a.txs) : F_k58 a = some (sQ a.txs) := by
  simp only [F_k58, pk_k58, p_txn_Slots, Option.bind_some]
  refine run_bind (γ := Int) a.txs (fun i n => ⟨n, a.txs, a.txs.length, i, a⟩) (fun i n t => some (.inl (IntKind.i64.wrap (n + sTs t)))) (fun n => some (.inl ⟨n, a.txs, a.txs.length, a.txs.length, a⟩)) 0 rfl ?_ ?_ ?_
  · intro i c t ht
    obtain ⟨h1, h2, h3, h4⟩ := at_ ht hl
    simp only [h1, h2, h3, h4, ht, if_true, Option.bind_some]
  · intro c; simp
  · refine (congrArg (fun x => Option.bind x _) (slots_loop _ a.txs 0 0 (by have := hl; omega) (by omega) (by omega))).trans ?_
    simp [selim]

theorem p_r05_Slots (a : Acc) (hl : Short a.txs) : F_k75 a = some (sQ a.txs) := by
  simp only [F_k75, pk_k75, p_r04_Slots, Option.bind_some]
  refine run_bind (γ := Int) a.txs (fun i n => ⟨n, i, a⟩) (fun i n t => some (.inl (IntKind.i64.wrap (n + sTs t)))) (fun n => some (.inl ⟨n, a.txs.length, a⟩)) 0 rfl ?_ ?_ ?_
  · intro i c t ht
    obtain ⟨h1, h2, h3, h4⟩ := at_ ht hl
    simp only [h1, h2, h3, h4, ht, if_true, Option.bind_some]
  · intro c; simp
  · refine (congrArg (fun x => Option.bind x _) (slots_loop _ a.txs 0 0 (by have := hl; omega) (by omega) (by omega))).trans ?_
    simp [selim]

def sChk (s : Int) : Int → List Tx → Bool
  | _, [] => true
  | nx, t :: l => sTx t && (decide (t.sender = s) && (decide (nx ≤ t.nonce) && sChk s (t.nonce + 1) l))

def sAcc (a : Acc) (per : Int) : Bool := decide (0 ≤ a.sender ∧ a.sender ≤ 255 ∧ 0 ≤ a.base ∧ a.base ≤ 4294967295 ∧ 1 ≤ per ∧ per ≤ 16 ∧ (a.txs.length : Int) ≤ per) && sChk a.sender a.base a.txs

theorem p_queue_Check (a : Acc) (per : Int) (hl : Short a.txs) : F_k51 a per = some (sAcc a per) := by
  simp only [F_k51, pk_k51, p_queue_in, p_txn_Check, Option.bind_some, sAcc, decide_eq_false_iff_not]
  by_cases h1 : ¬ (0 ≤ a.sender ∧ a.sender ≤ 255)
  · have hn : ¬ (0 ≤ a.sender ∧ a.sender ≤ 255 ∧ 0 ≤ a.base ∧ a.base ≤ 4294967295 ∧ 1 ≤ per ∧ per ≤ 16 ∧ (a.txs.length : Int) ≤ per) := by omega
    rw [decide_eq_false hn]
    simp only [h1, not_false_eq_true, if_true, Bool.false_and]
  replace h1 := Decidable.not_not.1 h1
  by_cases h2 : ¬ (0 ≤ a.base ∧ a.base ≤ 4294967295)
  · have hn : ¬ (0 ≤ a.sender ∧ a.sender ≤ 255 ∧ 0 ≤ a.base ∧ a.base ≤ 4294967295 ∧ 1 ≤ per ∧ per ≤ 16 ∧ (a.txs.length : Int) ≤ per) := by omega
    rw [decide_eq_false hn]
    simp only [h1, h2, not_true_eq_false, not_false_eq_true, if_true, if_false, and_self, Bool.false_and]
  replace h2 := Decidable.not_not.1 h2
  by_cases h3 : ¬ (1 ≤ per ∧ per ≤ 16)
  · have hn : ¬ (0 ≤ a.sender ∧ a.sender ≤ 255 ∧ 0 ≤ a.base ∧ a.base ≤ 4294967295 ∧ 1 ≤ per ∧ per ≤ 16 ∧ (a.txs.length : Int) ≤ per) := by omega
    rw [decide_eq_false hn]
    simp only [h1, h2, h3, not_true_eq_false, not_false_eq_true, if_true, if_false, and_self, Bool.false_and]
  replace h3 := Decidable.not_not.1 h3
  by_cases h4 : per < (a.txs.length : Int)
  · have hn : ¬ (0 ≤ a.sender ∧ a.sender ≤ 255 ∧ 0 ≤ a.base ∧ a.base ≤ 4294967295 ∧ 1 ≤ per ∧ per ≤ 16 ∧ (a.txs.length : Int) ≤ per) := by omega
    rw [decide_eq_false hn]
    simp only [h1, h2, h3, h4, not_true_eq_false, not_false_eq_true, if_true, if_false, and_self, Bool.false_and]
  have hp : (0 ≤ a.sender ∧ a.sender ≤ 255 ∧ 0 ≤ a.base ∧ a.base ≤ 4294967295 ∧ 1 ≤ per ∧ per ≤ 16 ∧ (a.txs.length : Int) ≤ per) := by omega
  simp only [h1, h2, h3, h4, hp, and_self, not_true_eq_false, if_false, decide_true, Bool.true_and]
  refine run_bind (γ := Int) a.txs (fun i nx => ⟨nx, a.txs, a.txs.length, i, a⟩) (fun i nx t => if sTx t = false then some (.inr (.inr false)) else if t.sender = a.sender then (if t.nonce < nx then some (.inr (.inr false)) else some (.inl (IntKind.i64.wrap (t.nonce + 1)))) else some (.inr (.inr false))) (fun nx => some (.inl ⟨nx, a.txs, a.txs.length, a.txs.length, a⟩)) a.base rfl ?_ ?_ ?_
  · intro i c t ht
    obtain ⟨h1, h2, h3, h4⟩ := at_ ht hl
    simp only [h1, h2, h3, h4, ht, if_true, Option.bind_some]
    split
    · rfl
    · split
      · split <;> rfl
      · rfl
  · intro c; simp
  · have key : ∀ (k : List Tx) (i : Nat) (nx : Int), (loopL (β := L_k51_0 ⊕ Bool) (fun i nx t => if sTx t = false then some (.inr (.inr false)) else if t.sender = a.sender then (if t.nonce < nx then some (.inr (.inr false)) else some (.inl (IntKind.i64.wrap (t.nonce + 1)))) else some (.inr (.inr false))) (fun nx => some (.inl ⟨nx, a.txs, a.txs.length, a.txs.length, a⟩)) i nx k).bind (selim (fun s => some true) fun n => some n) = some (sChk a.sender nx k) := by
      intro k
      induction k with
      | nil => intro i nx; rfl
      | cons t k ih =>
        intro i nx
        unfold loopL
        cases h5 : sTx t with
        | false => simp [sChk, h5, selim]
        | true =>
          by_cases h6 : t.sender = a.sender
          · by_cases h7 : t.nonce < nx
            · have h8 : ¬ nx ≤ t.nonce := by omega
              simp [sChk, h5, h6, h7, h8, selim]
            · have h8 : nx ≤ t.nonce := by omega
              obtain ⟨g1, g2, g3, g4, _⟩ := sTx_spec h5
              have e : IntKind.i64.wrap (t.nonce + 1) = t.nonce + 1 := wrap64 (by omega) (by omega)
              simp only [h6, h7, e, Bool.true_eq_false, if_false, if_true]
              rw [ih]
              simp [sChk, h5, h6, h8]
          · simp [sChk, h5, h6, selim]
    exact key a.txs 0 a.base

theorem r05_loop (a : Acc) (l : List Tx) (hs : Short l) : ∀ (k : List Tx) (i : Nat), l.drop i = k → i ≤ l.length → ∀ nx, (i = 0 → nx = a.base) → (0 < i → ∃ p, l[i - 1]? = some p ∧ nx = p.nonce + 1 ∧ a.base ≤ p.nonce ∧ p.nonce ≤ 4294967295) →
    (loopL (γ := Unit) (β := L_k6e_0 ⊕ Bool) (fun i _ t => if sTx t = false then some (.inr (.inr false)) else if t.sender = a.sender then (if t.nonce < a.base then some (.inr (.inr false)) else if 0 < i then (match l[i - 1]? with | some p => if t.nonce ≤ p.nonce then some (.inr (.inr false)) else some (.inl ()) | none => none) else some (.inl ())) else some (.inr (.inr false))) (fun _ => some (.inl ⟨l.length, a⟩)) i () k).bind (selim (fun s => some true) fun n => some n) = some (sChk a.sender nx k)
  | [], i, hd, hi, nx, _, _ => rfl
  | t :: k, i, hd, hi, nx, h0, h1 => by
    have ht : l[i]? = some t := by
      have := congrArg (·[0]?) hd
      simpa using this
    have hd' : l.drop (i + 1) = k := by
      have := congrArg List.tail hd
      simpa using this
    have hlt := (List.getElem?_eq_some_iff.1 ht).1
    unfold loopL
    cases h5 : sTx t with
    | false => simp [sChk, h5, selim]
    | true =>
      obtain ⟨g1, g2, g3, g4, _⟩ := sTx_spec h5
      by_cases h6 : ¬ t.sender = a.sender
      · simp [sChk, h5, h6, selim]
      replace h6 := Decidable.not_not.1 h6
      by_cases h7 : t.nonce < a.base
      · have h8 : ¬ nx ≤ t.nonce := by
          by_cases hi0 : i = 0
          · have := h0 hi0; omega
          · obtain ⟨p, _, hp, hb, _⟩ := h1 (by omega); omega
        simp [sChk, h5, h6, h7, h8, selim]
      · have ih := r05_loop a l hs k (i + 1) hd' hlt (t.nonce + 1) (fun h => by omega) (fun _ => ⟨t, by simpa using ht, rfl, by omega, by omega⟩)
        by_cases hi0 : i = 0
        · have e := h0 hi0
          have h8 : nx ≤ t.nonce := by omega
          have h9 : ¬ 0 < i := by omega
          simp only [h6, h7, h9, Bool.true_eq_false, if_false, if_true]
          rw [ih]
          simp [sChk, h5, h6, h8]
        · obtain ⟨p, hp, hnx, hb, _⟩ := h1 (by omega)
          have h9 : 0 < i := by omega
          by_cases h10 : t.nonce ≤ p.nonce
          · have h8 : ¬ nx ≤ t.nonce := by omega
            simp [sChk, h5, h6, h7, h8, h9, h10, hp, selim]
          · have h8 : nx ≤ t.nonce := by omega
            simp only [h6, h7, h9, h10, hp, Bool.true_eq_false, if_false, if_true]
            rw [ih]
            simp [sChk, h5, h6, h8]

theorem p_r05_Check (a : Acc) (per : Int) (hl : Short a.txs) : F_k6e a per = some (sAcc a per) := by
  simp only [F_k6e, pk_k6e, p_r04_Check, Option.bind_some, sAcc]
  by_cases h1 : a.sender < 0
  · rw [if_pos h1, decide_eq_false (by omega)]; rfl
  by_cases h2 : 255 < a.sender
  · rw [if_neg h1, if_pos h2, decide_eq_false (by omega)]; rfl
  by_cases h3 : a.base < 0
  · rw [if_neg h1, if_neg h2, if_pos h3, decide_eq_false (by omega)]; rfl
  by_cases h4 : 4294967296 ≤ a.base
  · rw [if_neg h1, if_neg h2, if_neg h3, if_pos h4, decide_eq_false (by omega)]; rfl
  by_cases h5 : per < 1
  · rw [if_neg h1, if_neg h2, if_neg h3, if_neg h4, if_pos h5, decide_eq_false (by omega)]; rfl
  by_cases h6 : 16 < per
  · rw [if_neg h1, if_neg h2, if_neg h3, if_neg h4, if_neg h5, if_pos h6, decide_eq_false (by omega)]; rfl
  by_cases h7 : per < (a.txs.length : Int)
  · rw [if_neg h1, if_neg h2, if_neg h3, if_neg h4, if_neg h5, if_neg h6, if_pos h7, decide_eq_false (by omega)]; rfl
  rw [if_neg h1, if_neg h2, if_neg h3, if_neg h4, if_neg h5, if_neg h6, if_neg h7, decide_eq_true (by omega), Bool.true_and]
  refine run_bind (γ := Unit) a.txs (fun i _ => ⟨i, a⟩) (fun i _ t => if sTx t = false then some (.inr (.inr false)) else if t.sender = a.sender then (if t.nonce < a.base then some (.inr (.inr false)) else if 0 < i then (match a.txs[i - 1]? with | some p => if t.nonce ≤ p.nonce then some (.inr (.inr false)) else some (.inl ()) | none => none) else some (.inl ())) else some (.inr (.inr false))) (fun _ => some (.inl ⟨a.txs.length, a⟩)) () rfl ?_ ?_ ?_
  · intro i c t ht
    obtain ⟨g1, g2, g3, g4⟩ := at_ ht hl
    have hs : a.txs.length ≤ 1099511627776 := hl
    simp only [g1, g2, g3, g4, ht, if_true, Option.bind_some]
    cases sTx t with
    | false => rfl
    | true =>
      simp only [Bool.true_eq_false, if_false]
      split
      · split
        · rfl
        · by_cases hi : 0 < i
          · have e1 : IntKind.i64.wrap ((i : Int) - 1) = ((i - 1 : Nat) : Int) := by rw [wrap64 (by omega) (by omega)]; omega
            have e2 : (0 : Int) < (i : Int) := by omega
            have e3 : (0 : Int) ≤ ((i - 1 : Nat) : Int) := by omega
            have e4 : ((i - 1 : Nat) : Int).toNat = i - 1 := by omega
            simp only [hi, e1, e2, e3, e4, if_true]
            cases a.txs[i - 1]? with
            | none => rfl
            | some p =>
              simp only [Option.bind_some]
              split <;> rfl
          · have e2 : ¬ (0 : Int) < (i : Int) := by omega
            simp only [hi, e2, if_false]
      · rfl
  · intro c; simp
  · exact r05_loop a a.txs hl a.txs 0 rfl (by omega) a.base (fun _ => rfl) (fun h => by omega)

def sPlace (a : Acc) (t : Tx) (per bump : Int) : Int × Int :=
  if sAcc a per = false then (0, 1) else if sTx t = false then (0, 1) else if t.sender ≠ a.sender then (0, 1) else if bump < 0 ∨ 100 < bump then (0, 1)
  else if t.nonce < a.base then (0, 3)
  else if (sFind a.txs t.nonce).2 = true then
    (if (sRaise (sFind a.txs t.nonce).1.tip bump).2 = false then (0, 4) else if t.tip < (sRaise (sFind a.txs t.nonce).1.tip bump).1 then (0, 4) else (sTs t - sTs (sFind a.txs t.nonce).1, 0))
  else if per ≤ (a.txs.length : Int) then (0, 5) else (sTs t, 0)

theorem p_r05_Place (a : Acc) (t : Tx) (per bump : Int) (hl : Short a.txs) : F_k71 a t per bump = some (sPlace a t per bump) := by
  simp only [F_k71, pk_k71, p_r05_Check a per hl, p_r04_Check, p_r05_Find a t.nonce hl, p_r01_Raise, p_r04_Slots, Option.bind_some, sPlace]
  have h1 := sTs_range t
  have h2 := sTs_range (sFind a.txs t.nonce).1
  rw [wrap64 (n := sTs t - sTs (sFind a.txs t.nonce).1) (by omega) (by omega)]
  by_cases h3 : sAcc a per = false
  · rw [if_pos h3, if_pos h3]
  rw [if_neg h3, if_neg h3]
  by_cases h4 : sTx t = false
  · rw [if_pos h4, if_pos h4]
  rw [if_neg h4, if_neg h4]
  by_cases h5 : t.sender = a.sender
  · rw [if_pos h5, if_neg (show ¬ (t.sender ≠ a.sender) from fun h => h h5)]
    by_cases h6 : bump < 0
    · rw [if_pos h6, if_pos (Or.inl h6)]
    by_cases h7 : 100 < bump
    · rw [if_neg h6, if_pos h7, if_pos (Or.inr h7)]
    rw [if_neg h6, if_neg h7, if_neg (show ¬ (bump < 0 ∨ 100 < bump) by omega)]
    repeat' split
    all_goals first | rfl | contradiction
  · rw [if_neg h5, if_pos (show t.sender ≠ a.sender from h5)]

theorem p_queue_Place (a : Acc) (t : Tx) (per bump : Int) (hl : Short a.txs) : F_k55 a t per bump = some (sPlace a t per bump) := by
  simp only [F_k55, pk_k55, p_queue_Check a per hl, p_txn_Check, p_queue_in, p_queue_Find a t.nonce hl, p_sat_Raise, p_txn_Slots, Option.bind_some, sPlace, decide_eq_false_iff_not]
  have h1 := sTs_range t
  have h2 := sTs_range (sFind a.txs t.nonce).1
  rw [wrap64 (n := sTs t - sTs (sFind a.txs t.nonce).1) (by omega) (by omega)]
  by_cases h3 : sAcc a per = false
  · rw [if_pos h3, if_pos h3]
  rw [if_neg h3, if_neg h3]
  by_cases h4 : sTx t = false
  · rw [if_pos h4, if_pos h4]
  rw [if_neg h4, if_neg h4]
  by_cases h5 : t.sender = a.sender
  · rw [if_pos h5, if_neg (show ¬ (t.sender ≠ a.sender) from fun h => h h5)]
    by_cases h6 : bump < 0 ∨ 100 < bump
    · rw [if_pos h6, if_pos (show ¬ (0 ≤ bump ∧ bump ≤ 100) by omega)]
    rw [if_neg h6, if_neg (show ¬ ¬ (0 ≤ bump ∧ bump ≤ 100) by omega)]
    by_cases h8 : t.nonce < a.base
    · rw [if_pos h8, if_pos h8]
    · rw [if_neg h8, if_neg h8]
      by_cases hf : (sFind a.txs t.nonce).2 = true
      · rw [if_neg (by rw [hf]; simp), if_pos hf]
        repeat' split
        all_goals first | rfl | contradiction
      · have hf' : (sFind a.txs t.nonce).2 = false := by simpa using hf
        rw [if_pos hf', if_neg hf]
        have hp : (a.txs.length : Int) ≤ per := by
          have : sAcc a per = true := by simpa using h3
          unfold sAcc at this
          rw [Bool.and_eq_true] at this
          have := of_decide_eq_true this.1
          omega
        by_cases h7 : (a.txs.length : Int) = per
        · rw [if_pos h7, if_pos (show per ≤ (a.txs.length : Int) by omega)]
        · rw [if_neg h7, if_neg (show ¬ per ≤ (a.txs.length : Int) by omega)]
  · rw [if_neg h5, if_pos (show t.sender ≠ a.sender from h5)]

end Go.Vm

/- Layer 5, the drop; layer 15, the plans. -/
set_option linter.unusedVariables false
set_option linter.unusedSimpArgs false
namespace Go.Vm
open Go Go.RowKit

theorem idx_key {α β δ : Type} (p : α → Bool) (l : List α) (fd : Nat → β) (nf : β) (g : β → Option δ) (G : δ)
    (hn : (∀ x ∈ l, p x = false) → g nf = some G) (hf : ∀ i x, l[i]? = some x → p x = true → (∀ y ∈ l.take i, p y = false) → g (fd i) = some G) :
    ∀ (k : List α) (i : Nat), l.drop i = k → (∀ x ∈ l.take i, p x = false) → (loopL (γ := Unit) (fun i _ t => if p t = true then some (.inr (fd i)) else some (.inl ())) (fun _ => some nf) i () k).bind g = some G
  | [], i, hd, hi => by
    have h := List.drop_eq_nil_iff.1 hd
    rw [List.take_of_length_le h] at hi
    exact hn hi
  | t :: k, i, hd, hi => by
    have ht : l[i]? = some t := by
      have := congrArg (·[0]?) hd
      simpa using this
    have hd' : l.drop (i + 1) = k := by
      have := congrArg List.tail hd
      simpa using this
    unfold loopL
    by_cases h : p t = true
    · simp only [h, if_true, Option.bind_some]
      exact hf i t ht h hi
    · simp only [h, Bool.false_eq_true, if_false]
      refine idx_key p l fd nf g G hn hf k (i + 1) hd' fun x hx => ?_
      rw [List.take_add_one, ht] at hx
      rcases List.mem_append.1 hx with hx | hx
      · exact hi x hx
      · simp at hx; subst hx; simpa using h

theorem del_loop (o0 : Acc) (n : Int) (len : Nat) (hlen : len ≤ 1099511627776) : ∀ (m : List Tx) (j i : Nat) (s : List Tx), s.length = len → s.drop j = m → i < j → j ≤ len →
    ∃ i' s', i' ≤ len ∧ s'.length = len ∧ s'.take i' = s.take i ++ m.filter (fun t => decide (t.nonce ≠ n)) ∧
      run (fun s : L_kb5_0 => if s.j < (s.s_.length : Int) then (if 0 ≤ s.j ∧ s.j < (s.s_.length : Int) then s.s_[s.j.toNat]?.bind fun a =>
          if a.nonce = s.o1 then some (Sum.inl { i := s.i, j := IntKind.i64.wrap (s.j + 1), o0 := s.o0, o1 := s.o1, sender := s.sender, base := s.base, s_ := s.s_, v4 := s.v4 })
          else if 0 ≤ s.i ∧ s.i < (s.s_.length : Int) then s.s_[s.i.toNat]?.bind fun a_2 =>
            if s.i.toNat < s.s_.length then some (Sum.inl { i := IntKind.i64.wrap (s.i + 1), j := IntKind.i64.wrap (s.j + 1), o0 := s.o0, o1 := s.o1, sender := s.sender, base := s.base, s_ := s.s_.set s.i.toNat a, v4 := s.v4 })
            else some (Sum.inl { i := IntKind.i64.wrap (s.i + 1), j := IntKind.i64.wrap (s.j + 1), o0 := s.o0, o1 := s.o1, sender := s.sender, base := s.base, s_ := s.s_, v4 := s.v4 })
          else none
        else none) else some (Sum.inr (Sum.inl { i := s.i, j := s.j, o0 := s.o0, o1 := s.o1, sender := s.sender, base := s.base, s_ := s.s_, v4 := s.v4 } : L_kb5_0 ⊕ L_kb5_0)))
        { i := (i : Int), j := (j : Int), o0 := o0, o1 := n, sender := 0, base := 0, s_ := s, v4 := [] } = some (.inl { i := (i' : Int), j := (len : Int), o0 := o0, o1 := n, sender := 0, base := 0, s_ := s', v4 := [] })
  | [], j, i, s, hs, hd, hij, hj => by
    have h := List.drop_eq_nil_iff.1 hd
    obtain rfl : j = len := by omega
    refine ⟨i, s, by omega, hs, by simp, ?_⟩
    rw [run_eq]
    have h1 : ¬ ((j : Int) < (s.length : Int)) := by omega
    simp only [h1, if_false]
  | t :: m, j, i, s, hs, hd, hij, hj => by
    have ht : s[j]? = some t := by
      have := congrArg (·[0]?) hd
      simpa using this
    have hd' : s.drop (j + 1) = m := by
      have := congrArg List.tail hd
      simpa using this
    have hjl := (List.getElem?_eq_some_iff.1 ht).1
    have h1 : (j : Int) < (s.length : Int) := by omega
    have h2 : (0 : Int) ≤ (j : Int) ∧ (j : Int) < (s.length : Int) := by omega
    have h3 : (j : Int).toNat = j := by omega
    have h4 : IntKind.i64.wrap ((j : Int) + 1) = ((j + 1 : Nat) : Int) := wrap_add1 j (by omega)
    by_cases hn : t.nonce = n
    · obtain ⟨i', s', g1, g2, g3, g4⟩ := del_loop o0 n len hlen m (j + 1) i s hs hd' (by omega) (by omega)
      refine ⟨i', s', g1, g2, by rw [g3]; simp [hn], ?_⟩
      rw [run_eq]
      simp only [h1, h2, h3, h4, ht, hn, and_self, if_true, Option.bind_some]
      exact g4
    · have hil : i < s.length := by omega
      obtain ⟨i', s', g1, g2, g3, g4⟩ := del_loop o0 n len hlen m (j + 1) (i + 1) (s.set i t) (by simpa using hs) (by rw [List.drop_set_of_lt (by omega)]; exact hd') (by omega) (by omega)
      refine ⟨i', s', g1, g2, ?_, ?_⟩
      · rw [g3]
        have : (s.set i t).take (i + 1) = s.take i ++ [t] := by
          rw [List.take_add_one, List.getElem?_set_self hil, List.take_set_of_le (by omega)]
          rfl
        rw [this]
        simp [hn]
      · rw [run_eq]
        have h5 : (0 : Int) ≤ (i : Int) ∧ (i : Int) < (s.length : Int) := by omega
        have h6 : (i : Int).toNat = i := by omega
        have h7 : IntKind.i64.wrap ((i : Int) + 1) = ((i + 1 : Nat) : Int) := wrap_add1 i (by omega)
        simp only [h1, h2, h3, h4, ht, hn, and_self, if_true, if_false, Option.bind_some, h5, h6, h7, hil, List.getElem?_eq_getElem hil]
        exact g4

theorem p_queue_Drop (a : Acc) (n : Int) (hl : Short a.txs) : F_k52 a n = some (sDrop a n) := by
  simp only [F_k52, pk_k52, p_Clone _ hl, Option.bind_some]
  have hlen : a.txs.length ≤ 1099511627776 := hl
  refine run_bind (γ := Unit) a.txs (fun i _ => ⟨0, a.txs.length, i, a, n, 0, 0, a.txs, []⟩) (fun i _ t => if decide (t.nonce = n) = true then some (.inr (.inr ⟨i, a.txs.length, i, a, n, 0, 0, a.txs, []⟩)) else some (.inl ())) (fun _ => some (.inl ⟨0, a.txs.length, a.txs.length, a, n, 0, 0, a.txs, []⟩)) () rfl ?_ ?_ ?_
  · intro i c t ht
    obtain ⟨h1, h2, h3, h4⟩ := at_ ht hl
    simp only [h1, h2, h3, h4, ht, and_self, if_true, Option.bind_some, decide_eq_true_eq]
    split <;> rfl
  · intro c; simp
  · refine idx_key (fun t : Tx => decide (t.nonce = n)) a.txs (fun i => (Sum.inr (⟨i, a.txs.length, i, a, n, 0, 0, a.txs, []⟩ : L_kb8_0) : L_kb8_0 ⊕ L_kb8_0)) (Sum.inl ⟨0, a.txs.length, a.txs.length, a, n, 0, 0, a.txs, []⟩) _ _ ?_ ?_ a.txs 0 rfl (by simp)
    · intro h
      simp only [selim, if_true]
      congr 1
      unfold sDrop
      congr 1
      rw [List.filter_eq_self.2]
      intro t ht
      have := h t ht
      simpa using this
    · intro i t ht hp hb
      have hi := (List.getElem?_eq_some_iff.1 ht).1
      have h1 : ¬ ((i : Int) = -1) := by omega
      have h2 : IntKind.i64.wrap ((i : Int) + 1) = ((i + 1 : Nat) : Int) := wrap_add1 i (by omega)
      obtain ⟨i', s', g1, g2, g3, g4⟩ := del_loop a n a.txs.length hlen (a.txs.drop (i + 1)) (i + 1) i a.txs rfl rfl (by omega) (by omega)
      simp only [selim, h1, if_false, List.length_nil, and_self, if_true, h2]
      refine (congrArg (fun x => Option.bind x _) g4).trans ?_
      have c1 : (0 : Int) ≤ (i' : Int) ∧ (i' : Int) ≤ (s'.length : Int) := by omega
      have c2 : (i' : Int) ≤ (s'.length : Int) := by omega
      have c3 : (i' : Int).toNat = i' := by omega
      have c4 : min i' s'.length + (s'.length - i') = s'.length ∧ (i' : Int) ≤ (s'.length : Int) := by omega
      have c5 : i' ≤ ((s'.map Tx.c).take i').length := by simp; omega
      show (if 0 ≤ (i' : Int) ∧ (i' : Int) ≤ (s'.length : Int) then (if (i' : Int) ≤ (s'.length : Int) then (if 0 ≤ (i' : Int) ∧ (i' : Int) ≤ (s'.length : Int) then (if min (i' : Int).toNat s'.length + (s'.length - (i' : Int).toNat) = s'.length ∧ (i' : Int) ≤ (s'.length : Int) then (decL dTx (List.take (i' : Int).toNat (List.take (i' : Int).toNat (List.map Tx.c s') ++ (_ ++ _)))).bind fun v2 => some (⟨a.sender, a.base, v2⟩ : Acc) else none) else none) else none) else none) = _
      rw [if_pos c1, if_pos c2, if_pos c1, c3, if_pos c4]
      rw [List.take_append_of_le_length c5, List.take_take, Nat.min_self, Tx.dtake]
      simp only [Option.bind_some]
      congr 1
      unfold sDrop
      congr 1
      rw [g3]
      have hsplit : a.txs = a.txs.take i ++ t :: a.txs.drop (i + 1) := by
        conv => lhs; rw [← List.take_append_drop i a.txs]
        congr 1
        rw [List.drop_eq_getElem_cons hi]
        congr 1
        have := (List.getElem?_eq_some_iff.1 ht).2
        exact this
      have hff : (a.txs.take i).filter (fun t => decide (t.nonce ≠ n)) = a.txs.take i := List.filter_eq_self.2 fun x hx => by
        have := hb x hx
        simpa using this
      have htn : ¬ (decide (t.nonce ≠ n) = true) := by simpa using hp
      conv => rhs; rw [hsplit]
      rw [List.filter_append, hff, List.filter_cons_of_neg (p := fun t : Tx => decide (t.nonce ≠ n)) htn]

def zAcc : Acc := ⟨0, 0, []⟩
def wrong (e : Int) : Plan := ⟨false, 0, zAcc, [], ⟨e, zTx, [], 0⟩⟩

theorem p_look_refuse (e : Int) : F_k43 e = some (wrong e) := rfl
abbrev Tiny {α : Type} (l : List α) : Prop := l.length ≤ 2097152
theorem Tiny.short {α : Type} {l : List α} (h : Tiny l) : Short l := by simp only [Tiny, Short] at *; omega

theorem sPutL_len (l : List Tx) (t : Tx) : (sPutL l t).length ≤ l.length + 1 := by
  have hr : ∀ l, (sRep t l).length ≤ l.length + 1 := by
    intro l
    induction l with
    | nil => simp [sRep]
    | cons x l ih => simp only [sRep]; split <;> simp <;> omega
  have hi : ∀ l, (sIns t l).length ≤ l.length + 1 := by
    intro l
    induction l with
    | nil => simp [sIns]
    | cons x l ih => simp only [sIns]; split <;> simp <;> omega
  unfold sPutL
  split
  · exact hr l
  · exact hi l

theorem wrapQ {l m : List Tx} (hl : Short l) (hm : Short m) : IntKind.i64.wrap (sQ l - sQ m) = sQ l - sQ m := by
  have h1 := sQ_range l
  have h2 := sQ_range m
  simp only [Short] at hl hm
  exact wrap64 (by omega) (by omega)

def sTo (a b : Acc) (ev : List Event) (r : Result) (ch : Bool) : Plan := ⟨ch, sQ b.txs - sQ a.txs, b, ev, r⟩
def zRes : Result := ⟨0, zTx, [], 0⟩

def sDropP (a : Acc) (n : Int) : Plan :=
  if (sFind a.txs n).2 = false then wrong 7 else sTo a (sDrop a n) [⟨3, (sFind a.txs n).1, 0⟩] ⟨0, (sFind a.txs n).1, [], 0⟩ true

theorem sDrop_len (a : Acc) (n : Int) : (sDrop a n).txs.length ≤ a.txs.length := List.length_filter_le _ _

theorem p_look_Drop (a : Acc) (n : Int) (ha : Short a.txs) : F_k3b a n = some (sDropP a n) := by
  have hb : Short (sDrop a n).txs := Nat.le_trans (sDrop_len a n) ha
  simp only [F_k3b, pk_k3b, p_queue_Find a n ha, p_look_refuse, p_queue_Drop a n ha, p_queue_Slots a ha, p_queue_Slots _ hb, Option.bind_some, sDropP, wrapQ hb ha]
  split <;> rfl

def sAdd (c : Config) (a : Acc) (l : List UInt8) : Plan := match sDec l with
  | none => wrong 2
  | some t => if (sPlace a t c.per c.bump).2 = 0 then sTo a (sPut a t) [⟨if (sFind a.txs t.nonce).2 = true then 2 else 1, t, 0⟩] zRes true else wrong (sPlace a t c.per c.bump).2

theorem p_look_add (c : Config) (a : Acc) (l : List UInt8) (ha : Tiny a.txs) (hs : Short l) : F_k3f c a (mk l) = some (sAdd c a l) := by
  simp only [F_k3f, pk_k3f, p_txn_Decode l hs, Option.bind_some, sAdd]
  cases sDec l with
  | none => rfl
  | some t =>
    have hb : Short (sPut a t).txs := by
      have h1 := sPutL_len a.txs t
      simp only [Tiny, Short, sPut] at *
      omega
    simp only [decR, Bool.true_eq_false, if_false, p_queue_Place a t _ _ ha.short, p_queue_Find a _ ha.short, p_queue_Put a t ha.short, p_queue_Slots a ha.short, p_queue_Slots _ hb, p_look_refuse, Option.bind_some, wrapQ hb ha.short]
    split
    · split <;> rfl
    · rfl

theorem loop_map {α δ β : Type} (ev : α → δ) (fin : List δ → Option β) : ∀ (l : List α) (i : Nat) (c : List δ), i + l.length ≤ 1099511627776 → c.length ≤ i →
    loopL (fun _ c t => if (c.length + 1) * 72 ≤ 140737488355328 then some (.inl (c ++ [ev t])) else none) fin i c l = fin (c ++ l.map ev)
  | [], i, c, _, _ => by simp [loopL]
  | t :: l, i, c, hi, hc => by
    simp only [List.length_cons] at hi
    unfold loopL
    have h72 : (c.length + 1) * 72 ≤ 140737488355328 := Nat.le_trans (Nat.mul_le_mul_right 72 (show c.length + 1 ≤ 1099511627776 by omega)) (by decide)
    simp only [h72, if_true]
    rw [loop_map ev fin l (i + 1) _ (by omega) (by simp; omega)]
    simp

def dropEv (t : Tx) : Event := ⟨3, t, 0⟩

def sAdvP (a : Acc) (b : Int) : Plan :=
  if a.sender < 0 ∨ 255 < a.sender then wrong 1
  else if (sAdv a b).2.2 = 0 then sTo a (sAdv a b).1 ((sAdv a b).2.1.map dropEv) ⟨0, zTx, (sAdv a b).2.1, 0⟩ (decide (a.base < b ∨ 0 < (sAdv a b).2.1.length))
  else wrong (sAdv a b).2.2

theorem sAdv_len (a : Acc) (b : Int) : (sAdv a b).1.txs.length ≤ a.txs.length ∧ (sAdv a b).2.1.length ≤ a.txs.length := by
  unfold sAdv
  split
  · simp
  · split
    · simp
    · exact ⟨List.length_filter_le _ _, List.length_filter_le _ _⟩

theorem p_look_advance (a : Acc) (b : Int) (ha : Short a.txs) : F_k40 a b = some (sAdvP a b) := by
  have hb : Short (sAdv a b).1.txs := Nat.le_trans (sAdv_len a b).1 ha
  have hg : Short (sAdv a b).2.1 := Nat.le_trans (sAdv_len a b).2 ha
  simp only [F_k40, pk_k40, p_queue_Advance a b ha, p_look_refuse, p_queue_Slots a ha, p_queue_Slots _ hb, wrapQ hb ha, Option.bind_some, sAdvP]
  by_cases h1 : a.sender < 0
  · rw [if_pos h1, if_pos (show a.sender < 0 ∨ 255 < a.sender from Or.inl h1)]
  by_cases h2 : 255 < a.sender
  · rw [if_neg h1, if_pos h2, if_pos (show a.sender < 0 ∨ 255 < a.sender from Or.inr h2)]
  rw [if_neg h1, if_neg h2, if_neg (show ¬ (a.sender < 0 ∨ 255 < a.sender) by omega)]
  by_cases h3 : ¬ (sAdv a b).2.2 = 0
  · rw [if_neg h3, if_neg h3]
  replace h3 := Decidable.not_not.1 h3
  rw [if_pos h3, if_pos h3]
  obtain ⟨r, hr⟩ : ∃ r, r = sAdv a b := ⟨_, rfl⟩
  rw [← hr] at hb hg h3 ⊢
  refine run_bind (γ := List Event) r.2.1 (fun i c => { (⟨3, r.2.1, r.2.1.length, 0, a, false, 0, 0, 0, 0, 0, 0, 0, 0, 0, ByteArray.empty, 0, r.1, [], true, sQ r.1.txs - sQ a.txs, r.1.sender, r.1.base, r.1.txs, 0, 0, 0, 0, 0, 0, ByteArray.empty, 0, a.sender, a.base, a.txs⟩ : L_k45_0) with v11 := (i : Int), o3 := c }) (fun _ c t => if (c.length + 1) * 72 ≤ 140737488355328 then some (.inl (c ++ [dropEv t])) else none) (fun c => some (.inl { (⟨3, r.2.1, r.2.1.length, 0, a, false, 0, 0, 0, 0, 0, 0, 0, 0, 0, ByteArray.empty, 0, r.1, [], true, sQ r.1.txs - sQ a.txs, r.1.sender, r.1.base, r.1.txs, 0, 0, 0, 0, 0, 0, ByteArray.empty, 0, a.sender, a.base, a.txs⟩ : L_k45_0) with v11 := (r.2.1.length : Int), o3 := c })) [] rfl ?_ ?_ ?_
  · intro i c t ht
    obtain ⟨g1, g2, g3, g4⟩ := at_ ht hg
    simp only [g1, g2, g3, g4, ht, if_true, Option.bind_some]
    split <;> rfl
  · intro c; simp
  · refine (congrArg (fun x => Option.bind x _) (loop_map dropEv _ r.2.1 0 [] (by have := hg; omega) (by simp))).trans ?_
    show (if a.base < b then some _ else some _) = _
    by_cases h4 : a.base < b
    · rw [if_pos h4, decide_eq_true (show a.base < b ∨ 0 < r.2.1.length from Or.inl h4)]; rfl
    · have hd : decide (a.base < b ∨ 0 < r.2.1.length) = decide (0 < r.2.1.length) := by simp [h4]
      rw [if_neg h4, hd]; rfl

def sGet (a : Acc) (n : Int) : Plan := if (sFind a.txs n).2 = false then wrong 7 else ⟨false, 0, zAcc, [], ⟨0, (sFind a.txs n).1, [], 0⟩⟩

def sLook (c : Config) (a : Acc) (k n : Int) (l : List UInt8) : Plan :=
  if k = 0 then sAdd c a l else if k = 1 then sDropP a n else if k = 2 then sAdvP a n else if k = 3 then sGet a n else wrong 1

theorem p_look_Look (c : Config) (a : Acc) (o : Op) (ha : Tiny a.txs) (hs : Short (L o.data)) : F_k3d c a o = some (sLook c a o.kind o.nonce (L o.data)) := by
  have hadd : F_k3f c a o.data = some (sAdd c a (L o.data)) := by
    have := p_look_add c a (L o.data) ha hs
    rwa [mk_L] at this
  simp only [F_k3d, pk_k3d, hadd, p_look_Drop a _ ha.short, p_look_advance a _ ha.short, p_look_refuse, sLook, F_k42, pk_k42, p_queue_Find a _ ha.short, Option.bind_some, sGet]
  repeat' split
  all_goals first | rfl | contradiction

def sWhose (k s : Int) (l : List UInt8) : Int × Bool := if k = 0 then ((decR (sDec l)).1.sender, (decR (sDec l)).2) else if k < 1 ∨ 3 < k ∨ s < 0 ∨ 255 < s then (0, false) else (s, true)

theorem p_look_Whose (o : Op) (hs : Short (L o.data)) : F_k3e o = some (sWhose o.kind o.sender (L o.data)) := by
  have hd : F_kcf o.data = some (decR (sDec (L o.data))) := by
    have := p_txn_Decode (L o.data) hs
    rwa [mk_L] at this
  simp only [F_k3e, pk_k3e, hd, Option.bind_some, sWhose]
  repeat' split
  all_goals first | rfl | omega

end Go.Vm

/- What two plans have in common; how long plans are. -/
set_option linter.unusedVariables false
set_option linter.unusedSimpArgs false
namespace Go.Vm
open Go Go.RowKit

theorem p_r13_Events (l : List Event) (hl : Short l) : F_k8c l l = some true := by
  simp only [F_k8c, pk_k8c, if_true]
  refine run_bind (γ := Unit) l (fun i _ => ⟨l, l, i⟩) (fun i _ t => some (.inl ())) (fun _ => some (.inl ⟨l, l, l.length⟩)) () rfl ?_ ?_ ?_
  · intro i c t ht
    obtain ⟨h1, h2, h3, h4⟩ := at_ ht hl
    simp only [h1, h2, h3, h4, ht, if_true, Option.bind_some, not_true_eq_false, or_self, if_false]
  · intro c; simp
  · have key : ∀ (k : List Event) (i : Nat), (loopL (γ := Unit) (fun i _ t => some (.inl ())) (fun _ => some (.inl (⟨l, l, l.length⟩ : L_k8c_0))) i () k).bind (selim (fun s => some true) fun n => some n) = some true := by
      intro k
      induction k with
      | nil => intro i; simp [loopL, selim]
      | cons t k ih => intro i; exact ih (i + 1)
    exact key l 0

def sFull (p : Plan) : Result := if p.changes = true ∧ 0 < p.delta then ⟨6, zTx, [], 0⟩ else p.result
theorem p_look_Full (p : Plan) : F_k3c p = some (sFull p) := by
  simp only [F_k3c, pk_k3c, sFull]
  by_cases h1 : p.changes = true <;> by_cases h2 : 0 < p.delta <;> simp [h1, h2, zTx]
def PS (m : Nat) (p : Plan) : Prop := p.after.txs.length ≤ m ∧ p.events.length ≤ m ∧ p.result.txs.length ≤ m
theorem PS_wrong (m : Nat) (e : Int) : PS m (wrong e) := by simp [PS, wrong, zAcc]
theorem sLook_len (c : Config) (a : Acc) (k n : Int) (l : List UInt8) : PS (a.txs.length + 1) (sLook c a k n l) := by
  unfold sLook
  split
  · unfold sAdd
    split
    · exact PS_wrong _ _
    · rename_i t _
      split
      · exact ⟨sPutL_len a.txs t, by simp [sTo], by simp [sTo, zRes]⟩
      · exact PS_wrong _ _
  · split
    · unfold sDropP
      split
      · exact PS_wrong _ _
      · exact ⟨Nat.le_succ_of_le (sDrop_len a n), by simp [sTo], by simp [sTo]⟩
    · split
      · unfold sAdvP
        split
        · exact PS_wrong _ _
        · split
          · have h := sAdv_len a n
            exact ⟨Nat.le_succ_of_le h.1, by simp [sTo]; omega, by simp [sTo]; omega⟩
          · exact PS_wrong _ _
      · split
        · unfold sGet
          split
          · exact PS_wrong _ _
          · simp [PS, zAcc]
        · exact PS_wrong _ _

theorem sLook_full (c : Config) (a : Acc) (k n : Int) (l : List UInt8) (ha : Tiny a.txs) : F_k8f (sFull (sLook c a k n l)) (sFull (sLook c a k n l)) = some true := by
  obtain ⟨h1, h2, h3⟩ := sLook_len c a k n l
  simp only [Tiny] at ha
  refine p_r13_Same _ ?_
  unfold sFull
  split
  · simp
  · simp only [Short]; omega

end Go.Vm

/- Why LookMay answers true. -/
set_option linter.unusedVariables false
set_option linter.unusedSimpArgs false
namespace Go.Vm
open Go Go.RowKit

theorem wrong_err {c : Config} {a : Acc} {k n : Int} {l : List UInt8} (h : ¬ (sLook c a k n l).result.err = 0) : ∃ e, sLook c a k n l = wrong e := by
  unfold sLook at h ⊢
  split
  · rename_i hk
    rw [if_pos hk] at h
    unfold sAdd at h ⊢
    cases hd : sDec l with
    | none => exact ⟨_, rfl⟩
    | some t =>
      rw [hd] at h
      simp only at h ⊢
      split
      · rename_i hp; rw [if_pos hp] at h; exact absurd rfl h
      · exact ⟨_, rfl⟩
  · rename_i hk
    rw [if_neg hk] at h
    split
    · rename_i hk; rw [if_pos hk] at h
      unfold sDropP at h ⊢
      split
      · exact ⟨_, rfl⟩
      · rename_i hp; rw [if_neg hp] at h; exact absurd rfl h
    · rename_i hk; rw [if_neg hk] at h
      split
      · rename_i hk; rw [if_pos hk] at h
        unfold sAdvP at h ⊢
        split
        · exact ⟨_, rfl⟩
        · rename_i hq; rw [if_neg hq] at h
          split
          · rename_i hp; rw [if_pos hp] at h; exact absurd rfl h
          · exact ⟨_, rfl⟩
      · rename_i hk; rw [if_neg hk] at h
        split
        · rename_i hk; rw [if_pos hk] at h
          unfold sGet at h ⊢
          split
          · exact ⟨_, rfl⟩
          · rename_i hp; rw [if_neg hp] at h; exact absurd rfl h
        · exact ⟨_, rfl⟩

theorem chk_mono {s nx nx' : Int} (h : nx' ≤ nx) : ∀ {l : List Tx}, sChk s nx l = true → sChk s nx' l = true
  | [], _ => rfl
  | t :: l, hc => by
    simp only [sChk, Bool.and_eq_true, decide_eq_true_eq] at hc ⊢
    exact ⟨hc.1, hc.2.1, by omega, hc.2.2.2⟩

theorem chk_filter {s : Int} (p : Tx → Bool) : ∀ {l : List Tx} {nx : Int}, sChk s nx l = true → sChk s nx (l.filter p) = true
  | [], _, _ => rfl
  | t :: l, nx, hc => by
    simp only [sChk, Bool.and_eq_true, decide_eq_true_eq] at hc
    by_cases h : p t = true
    · rw [List.filter_cons_of_pos h]
      simp only [sChk, Bool.and_eq_true, decide_eq_true_eq]
      exact ⟨hc.1, hc.2.1, hc.2.2.1, chk_filter p hc.2.2.2⟩
    · rw [List.filter_cons_of_neg h]
      exact chk_mono (by omega) (chk_filter p hc.2.2.2)

theorem chk_ge {s b : Int} : ∀ {l : List Tx} {nx : Int}, sChk s nx l = true → (∀ t ∈ l, b ≤ t.nonce) → sChk s b l = true
  | [], _, _, _ => rfl
  | t :: l, nx, hc, hb => by
    simp only [sChk, Bool.and_eq_true, decide_eq_true_eq] at hc ⊢
    exact ⟨hc.1, hc.2.1, hb t (List.mem_cons_self), hc.2.2.2⟩

theorem chk_rep {s : Int} {t : Tx} (ht : sTx t = true) (hs : t.sender = s) : ∀ {l : List Tx} {nx : Int}, (sFind l t.nonce).2 = true → sChk s nx l = true → sChk s nx (sRep t l) = true
  | [], _, hf, _ => by simp [sFind] at hf
  | x :: l, nx, hf, hc => by
    simp only [sChk, Bool.and_eq_true, decide_eq_true_eq] at hc
    by_cases h : x.nonce = t.nonce
    · simp only [sRep, h, if_true, sChk, Bool.and_eq_true, decide_eq_true_eq]
      rw [← h]
      exact ⟨ht, hs, hc.2.2.1, hc.2.2.2⟩
    · simp only [sRep, h, if_false, sChk, Bool.and_eq_true, decide_eq_true_eq]
      have hf' : (sFind l t.nonce).2 = true := by simpa [sFind, h] using hf
      exact ⟨hc.1, hc.2.1, hc.2.2.1, chk_rep ht hs hf' hc.2.2.2⟩

theorem chk_ins {s : Int} {t : Tx} (ht : sTx t = true) (hs : t.sender = s) : ∀ {l : List Tx} {nx : Int}, (∀ x ∈ l, x.nonce ≠ t.nonce) → nx ≤ t.nonce → sChk s nx l = true → sChk s nx (sIns t l) = true
  | [], nx, _, hn, _ => by
    simp only [sIns, sChk, Bool.and_eq_true, decide_eq_true_eq]
    exact ⟨ht, hs, hn, trivial⟩
  | x :: l, nx, hf, hn, hc => by
    simp only [sChk, Bool.and_eq_true, decide_eq_true_eq] at hc
    have hx := hf x (List.mem_cons_self)
    by_cases h : t.nonce < x.nonce
    · simp only [sIns, h, if_true, sChk, Bool.and_eq_true, decide_eq_true_eq]
      exact ⟨ht, hs, hn, hc.1, hc.2.1, by omega, hc.2.2.2⟩
    · simp only [sIns, h, if_false, sChk, Bool.and_eq_true, decide_eq_true_eq]
      exact ⟨hc.1, hc.2.1, hc.2.2.1, chk_ins ht hs (fun y hy => hf y (List.mem_cons_of_mem _ hy)) (by omega) hc.2.2.2⟩

theorem rep_len {t : Tx} : ∀ {l : List Tx}, (sFind l t.nonce).2 = true → (sRep t l).length = l.length
  | [], hf => by simp [sFind] at hf
  | x :: l, hf => by
    by_cases h : x.nonce = t.nonce
    · simp [sRep, h]
    · have hf' : (sFind l t.nonce).2 = true := by simpa [sFind, h] using hf
      simp [sRep, h, rep_len hf']
theorem ins_len (t : Tx) : ∀ (l : List Tx), (sIns t l).length = l.length + 1
  | [] => rfl
  | x :: l => by
    by_cases h : t.nonce < x.nonce
    · simp [sIns, h]
    · simp [sIns, h, ins_len t l]

theorem sAcc_spec {a : Acc} {per : Int} : sAcc a per = true ↔ (0 ≤ a.sender ∧ a.sender ≤ 255 ∧ 0 ≤ a.base ∧ a.base ≤ 4294967295 ∧ 1 ≤ per ∧ per ≤ 16 ∧ (a.txs.length : Int) ≤ per) ∧ sChk a.sender a.base a.txs = true := by
  unfold sAcc; rw [Bool.and_eq_true, decide_eq_true_eq]

theorem place_ok {a : Acc} {t : Tx} {per bump : Int} (h : (sPlace a t per bump).2 = 0) : sAcc a per = true ∧ sTx t = true ∧ t.sender = a.sender ∧ a.base ≤ t.nonce ∧ ((sFind a.txs t.nonce).2 = true ∨ (a.txs.length : Int) < per) := by
  unfold sPlace at h
  split at h
  · simp at h
  rename_i h1
  split at h
  · simp at h
  rename_i h2
  split at h
  · simp at h
  rename_i h3
  split at h
  · simp at h
  split at h
  · simp at h
  rename_i h5
  refine ⟨by simpa using h1, by simpa using h2, Decidable.not_not.1 h3, by omega, ?_⟩
  split at h
  · rename_i h6; exact .inl h6
  · split at h
    · simp at h
    · rename_i h7; exact .inr (by omega)

theorem plan_may {c : Config} {a : Acc} {k n : Int} {l : List UInt8} (ha : sAcc a c.per = true) (he : (sLook c a k n l).result.err = 0) (hc : (sLook c a k n l).changes = true) :
    sAcc (sLook c a k n l).after c.per = true ∧ (sLook c a k n l).delta = sQ (sLook c a k n l).after.txs - sQ a.txs ∧ (sLook c a k n l).after.sender = a.sender ∧ a.base ≤ (sLook c a k n l).after.base := by
  obtain ⟨hb, hk⟩ := sAcc_spec.1 ha
  unfold sLook at he hc ⊢
  split
  · rename_i h0
    rw [if_pos h0] at he hc
    unfold sAdd at he hc ⊢
    cases hd : sDec l with
    | none => rw [hd] at hc; simp [wrong] at hc
    | some t =>
      rw [hd] at he hc
      simp only at he hc ⊢
      split
      · rename_i hp
        obtain ⟨h1, h2, h3, h4, h5⟩ := place_ok hp
        refine ⟨sAcc_spec.2 ⟨?_, ?_⟩, rfl, rfl, Int.le_refl _⟩
        · simp only [sTo, sPut, sPutL]
          split
          · rename_i hf; rw [rep_len hf]; exact hb
          · rename_i hf
            rw [ins_len]
            rcases h5 with h5 | h5
            · exact absurd h5 hf
            · omega
        · simp only [sTo, sPut, sPutL]
          split
          · rename_i hf; exact chk_rep h2 h3 hf hk
          · rename_i hf
            exact chk_ins h2 h3 (sFind_not (by simpa using hf)) h4 hk
      · rename_i hp; rw [if_neg hp] at hc; simp [wrong] at hc
  · rename_i h0
    rw [if_neg h0] at he hc
    split
    · rename_i h1; rw [if_pos h1] at he hc
      unfold sDropP at he hc ⊢
      split
      · rename_i hp; rw [if_pos hp] at hc; simp [wrong] at hc
      · refine ⟨sAcc_spec.2 ⟨?_, chk_filter _ hk⟩, rfl, rfl, Int.le_refl _⟩
        have := sDrop_len a n
        simp only [sTo, sDrop] at this ⊢
        omega
    · rename_i h1; rw [if_neg h1] at he hc
      split
      · rename_i h2; rw [if_pos h2] at he hc
        unfold sAdvP at he hc ⊢
        split
        · rename_i hp; rw [if_pos hp] at hc; simp [wrong] at hc
        · rename_i hq; rw [if_neg hq] at he hc
          split
          · rename_i hp
            unfold sAdv at hp ⊢
            split at hp
            · simp at hp
            · rename_i g1
              split at hp
              · simp at hp
              · rename_i g2
                rw [if_neg g1, if_neg g2]
                have hlen := List.length_filter_le (fun t : Tx => !decide (t.nonce < n)) a.txs
                refine ⟨sAcc_spec.2 ⟨?_, ?_⟩, rfl, rfl, ?_⟩
                · simp only [sTo]; omega
                · simp only [sTo]
                  refine chk_ge (chk_filter _ hk) fun t ht => ?_
                  have := (List.mem_filter.1 ht).2
                  simp at this
                  exact this
                · simp only [sTo]; omega
          · rename_i hp; rw [if_neg hp] at hc; simp [wrong] at hc
      · rename_i h2; rw [if_neg h2] at he hc
        split
        · rename_i h3; rw [if_pos h3] at he hc
          unfold sGet at hc
          split at hc
          · simp [wrong] at hc
          · simp at hc
        · rename_i h3; rw [if_neg h3] at hc; simp [wrong] at hc

theorem plan_still {c : Config} {a : Acc} {k n : Int} {l : List UInt8} (he : (sLook c a k n l).result.err = 0) (hc : (sLook c a k n l).changes = false) : (sLook c a k n l).delta = 0 ∧ (sLook c a k n l).events.length = 0 := by
  unfold sLook at he hc ⊢
  split
  · rename_i h0
    rw [if_pos h0] at he hc
    unfold sAdd at he hc ⊢
    cases hd : sDec l with
    | none => exact ⟨rfl, rfl⟩
    | some t =>
      rw [hd] at he hc
      simp only at he hc ⊢
      split
      · rename_i hp; rw [if_pos hp] at hc; simp [sTo] at hc
      · exact ⟨rfl, rfl⟩
  · rename_i h0
    rw [if_neg h0] at he hc
    split
    · rename_i h1; rw [if_pos h1] at he hc
      unfold sDropP at he hc ⊢
      split
      · exact ⟨rfl, rfl⟩
      · rename_i hp; rw [if_neg hp] at hc; simp [sTo] at hc
    · rename_i h1; rw [if_neg h1] at he hc
      split
      · rename_i h2; rw [if_pos h2] at he hc
        unfold sAdvP at he hc ⊢
        split
        · exact ⟨rfl, rfl⟩
        · rename_i hq; rw [if_neg hq] at he hc
          split
          · rename_i hp
            rw [if_pos hp] at hc
            simp only [sTo, decide_eq_false_iff_not, not_or] at hc ⊢
            have hg : (sAdv a n).2.1 = [] := List.eq_nil_of_length_eq_zero (by omega)
            refine ⟨?_, by simp [hg]⟩
            unfold sAdv at hp hg ⊢
            split at hp
            · simp at hp
            · rename_i g1
              split at hp
              · simp at hp
              · rename_i g2
                rw [if_neg g1, if_neg g2] at hg ⊢
                simp only at hg ⊢
                have : a.txs.filter (fun t => !decide (t.nonce < n)) = a.txs := by
                  rw [List.filter_eq_self]
                  intro t ht
                  have := List.filter_eq_nil_iff.1 hg t ht
                  simpa using this
                rw [this]; omega
          · exact ⟨rfl, rfl⟩
      · rename_i h2; rw [if_neg h2] at he hc
        split
        · unfold sGet
          split <;> exact ⟨rfl, rfl⟩
        · exact ⟨rfl, rfl⟩

end Go.Vm
