/- Layers 2, 7, 9, 11, 13, 16: the small functions, program = document. -/
import Derived.Test.YtaidpcnnggknnaaGreatP
import Derived.Test.YtaidpcnnggknnaaGreatYa
import Derived.Test.YtaidpcnnggknnaaGreatYb
import Derived.Test.YtaidpcnnggknnaaGreatK
import Derived.Test.YtaidpcnnggknnaaGreatYc
import Derived.Test.YtaidpcnnggknnaaGreatWd
import Derived.Test.YtaidpcnnggknnaaGreatZa
import Derived.Test.YtaidpcnnggknnaaGreatZb

set_option linter.unusedVariables false
set_option linter.unusedSimpArgs false
namespace Go.Vm
open Go Go.RowKit

def sCfg (c : Config) : Bool := decide (1 ≤ c.shards ∧ c.shards ≤ 8 ∧ 0 ≤ c.soft ∧ c.soft ≤ c.hard ∧ 1 ≤ c.hard ∧ c.hard ≤ 1000 ∧ 1 ≤ c.per ∧ c.per ≤ 16 ∧ 0 ≤ c.bump ∧ c.bump ≤ 100 ∧ 1 ≤ c.feed ∧ c.feed ≤ 16 ∧ 1 ≤ c.workers ∧ c.workers ≤ 4 ∧ 1 ≤ c.room ∧ c.room ≤ 8)

theorem p_pool_in (n a b : Int) : F_k4c n a b = some (decide (a ≤ n ∧ n ≤ b)) := by
  simp only [F_k4c, pk_k4c]
  split
  · congr 1; rw [decide_eq_decide]; omega
  · congr 1; exact (decide_eq_false (by omega)).symm

theorem p_pool_Config (c : Config) : F_k48 c = some (sCfg c) := by
  simp only [F_k48, pk_k48, p_pool_in, Option.bind_some, decide_eq_true_eq, sCfg]
  repeat' split
  all_goals first
    | (congr 1; rw [decide_eq_decide]; omega)
    | (congr 1; exact (decide_eq_false (by omega)).symm)

theorem ite_f {P : Prop} [Decidable P] {x : Option Bool} {q : Bool} (h : x = some q) : (if P then some false else x) = some (!decide P && q) := by
  by_cases hp : P <;> simp [hp, h]
theorem ite_t {P : Prop} [Decidable P] {x : Option Bool} {q : Bool} (h : x = some q) : (if P then x else some false) = some (decide P && q) := by
  by_cases hp : P <;> simp [hp, h]

theorem p_r13_Config (c : Config) : F_k8a c = some (sCfg c) := by
  simp only [F_k8a, pk_k8a, sCfg]
  refine (ite_f (ite_f (ite_f (ite_f (ite_f (ite_f (ite_f (ite_f (ite_t (ite_t (ite_t (ite_t (ite_t (ite_t (ite_t rfl))))))))))))))).trans ?_
  congr 1
  rw [Bool.eq_iff_iff]
  simp only [Bool.and_eq_true, Bool.not_eq_true', decide_eq_true_eq, decide_eq_false_iff_not]
  omega

def hsh (a : Int) : Int := IntKind.u64.wrap (bits .xor .u64 14695981039346656037 (IntKind.u64.wrap ((UInt8.ofNat (IntKind.u8.wrap a).toNat).toNat : Int)) * 1099511628211)
def sShd (a n : Int) : Int := if 0 ≤ a ∧ a ≤ 255 ∧ 1 ≤ n ∧ n ≤ 8 then hsh a % n else -1

theorem u64_range (x : Int) : 0 ≤ IntKind.u64.wrap x ∧ IntKind.u64.wrap x < 18446744073709551616 := by
  simp only [IntKind.wrap, IntKind.bits, IntKind.signed]; simp; omega
theorem u64_id {x : Int} (h0 : 0 ≤ x) (h1 : x < 18446744073709551616) : IntKind.u64.wrap x = x := by
  simp only [IntKind.wrap, IntKind.bits, IntKind.signed]; simp; omega
theorem i64_id {x : Int} (h0 : -9223372036854775808 ≤ x) (h1 : x ≤ 9223372036854775807) : IntKind.i64.wrap x = x := by
  simp only [IntKind.wrap, IntKind.bits, IntKind.signed]; simp; omega

theorem one_str (a : Int) : strOfNums [IntKind.u8.wrap a] = mk [UInt8.ofNat (IntKind.u8.wrap a).toNat] := by
  exact strOfNums_cons _ _ (Int.toNat_of_nonneg (by rw [wrap_u8m]; omega)).symm [] [] rfl

theorem p_fnv_Roll (h : Int) (b : UInt8) : F_k0a h (mk [b]) = some (IntKind.u64.wrap (bits .xor .u64 h (IntKind.u64.wrap (b.toNat : Int)) * 1099511628211)) := by
  have w1 : IntKind.i64.wrap (0 + 1) = 1 := by decide
  have g : (mk [b])[(0 : Nat)]? = some b := by rw [mk_get]; rfl
  have key : run (fun s : L_k0a_0 => if s.i < (s.s_.size : Int) then (if 0 ≤ s.i then s.s_[s.i.toNat]?.bind fun a => some (Sum.inl { h := IntKind.u64.wrap (bits BinOp.xor IntKind.u64 s.h (IntKind.u64.wrap (a.toNat : Int)) * 1099511628211), s_ := s.s_, i := IntKind.i64.wrap (s.i + 1) }) else none) else some (Sum.inr s.h)) { h := h, s_ := mk [b], i := 0 } = some (IntKind.u64.wrap (bits .xor .u64 h (IntKind.u64.wrap (b.toNat : Int)) * 1099511628211)) := by
    rw [run_eq]
    simp only [mk_size, List.length_singleton, Int.toNat_zero, g, w1, Option.bind_some, show (0 : Int) < ((1 : Nat) : Int) from by decide, show (0 : Int) ≤ 0 from by decide, if_true]
    rw [run_eq]
    simp [mk_size]
  simp only [F_k0a, pk_k0a]
  exact key

theorem p_r02_Roll (h : Int) (b : UInt8) : F_k5e h (mk [b]) = some (IntKind.u64.wrap (bits .xor .u64 h (IntKind.u64.wrap (b.toNat : Int)) * 1099511628211)) := by
  have w1 : IntKind.i64.wrap (0 + 1) = 1 := by decide
  have g : (mk [b])[(0 : Nat)]? = some b := by rw [mk_get]; rfl
  have key : run (fun s : L_k5e_0 => if s.i < (s.s_.size : Int) then (if 0 ≤ s.i then s.s_[s.i.toNat]?.bind fun a => some (Sum.inl { h := IntKind.u64.wrap (bits BinOp.xor IntKind.u64 s.h (IntKind.u64.wrap (a.toNat : Int)) * 1099511628211), s_ := s.s_, i := IntKind.i64.wrap (s.i + 1) }) else none) else some (Sum.inr (Sum.inl ({ h := s.h, s_ := s.s_, i := s.i } : L_k5e_0) : L_k5e_0 ⊕ Int))) { h := h, s_ := mk [b], i := 0 } = some (Sum.inl { h := IntKind.u64.wrap (bits .xor .u64 h (IntKind.u64.wrap (b.toNat : Int)) * 1099511628211), s_ := mk [b], i := 1 }) := by
    rw [run_eq]
    simp only [mk_size, List.length_singleton, Int.toNat_zero, g, w1, Option.bind_some, show (0 : Int) < ((1 : Nat) : Int) from by decide, show (0 : Int) ≤ 0 from by decide, if_true]
    rw [run_eq]
    simp [mk_size]
  simp only [F_k5e, pk_k5e]
  exact (congrArg (fun x => Option.bind x _) key).trans rfl

theorem shd_fin {a n : Int} (ha : 0 ≤ a ∧ a ≤ 255 ∧ 1 ≤ n ∧ n ≤ 8) : (if IntKind.u64.wrap n = 0 then (none : Option Int) else some (IntKind.i64.wrap ((hsh a).tmod (IntKind.u64.wrap n)))) = some (sShd a n) := by
  have e : IntKind.u64.wrap n = n := u64_id (by omega) (by omega)
  have hh : 0 ≤ hsh a := (u64_range _).1
  rw [e, if_neg (by omega), sShd, if_pos ha, Int.tmod_eq_emod_of_nonneg hh]
  have h1 := Int.emod_nonneg (hsh a) (b := n) (by omega)
  have h2 := Int.emod_lt_of_pos (hsh a) (b := n) (by omega)
  rw [i64_id (by omega) (by omega)]

theorem p_fnv_Shard (a n : Int) : F_k0b a n = some (sShd a n) := by
  simp only [F_k0b, pk_k0b, F_k09, pk_k09, one_str, p_fnv_Roll, Option.bind_some]
  by_cases h : 0 ≤ a ∧ a ≤ 255 ∧ 1 ≤ n ∧ n ≤ 8
  · rw [if_neg (by omega), if_neg (by omega), if_neg (by omega), if_neg (by omega)]
    exact shd_fin h
  · rw [sShd, if_neg h]
    repeat' split
    all_goals first | rfl | omega

theorem p_r02_Shard (a n : Int) : F_k5f a n = some (sShd a n) := by
  simp only [F_k5f, pk_k5f, F_k5d, pk_k5d, one_str, p_r02_Roll, Option.bind_some]
  by_cases h : 0 ≤ a ∧ a ≤ 255 ∧ 1 ≤ n ∧ n ≤ 8
  · rw [if_neg (by omega), if_neg (by omega), if_neg (by omega), if_neg (by omega)]
    exact shd_fin h
  · rw [sShd, if_neg h]
    repeat' split
    all_goals first | rfl | omega

theorem shd_range (a n : Int) : -1 ≤ sShd a n ∧ (1 ≤ n → sShd a n < n) := by
  unfold sShd
  split
  · have h1 := Int.emod_nonneg (hsh a) (b := n) (by omega)
    have h2 := Int.emod_lt_of_pos (hsh a) (b := n) (by omega)
    omega
  · omega

def sFree (t : List Int) (i : Int) : Bool := decide (0 ≤ i) && decide (t[i.toNat]? = some 0)
theorem p_lock_is (t : List Int) (i : Int) : F_k39 t i = some (decide (0 ≤ i ∧ i < t.length)) := by
  simp only [F_k39, pk_k39]
  split
  · congr 1; rw [decide_eq_decide]; omega
  · congr 1; exact (decide_eq_false (by omega)).symm
theorem p_lock_Free (t : List Int) (i : Int) : F_k35 t i = some (sFree t i) := by
  simp only [F_k35, pk_k35, p_lock_is, Option.bind_some, decide_eq_true_eq, sFree]
  split
  · rename_i h
    rw [if_pos h.1]
    have hl : i.toNat < t.length := by omega
    rw [List.getElem?_eq_getElem hl]
    simp [h.1]
  · rename_i h
    by_cases h0 : 0 ≤ i
    · rw [List.getElem?_eq_none (by omega)]; simp
    · simp [h0]

theorem p_Clone_Table (l : List Int) (hl : l.length ≤ 1000000) : F_kb2 l = some l := by
  simp only [F_kb2, pk_kb2]
  have h8 : l.length * 8 ≤ 140737488355328 := by omega
  cases l with
  | nil => simp [wboth]
  | cons x l => rw [if_neg (List.cons_ne_nil _ _), if_pos h8, if_neg (List.cons_ne_nil _ _)]

theorem p_lock_set (t : List Int) (i : Nat) (v : Int) (hi : i < t.length) (hl : t.length ≤ 1000000) : F_k3a t i v = some (t.set i v) := by
  simp only [F_k3a, pk_k3a, p_Clone_Table t hl, Option.bind_some]
  have h1 : (0 : Int) ≤ (i : Int) ∧ (i : Int) < (t.length : Int) := by omega
  have h2 : ((i : Nat) : Int).toNat = i := by omega
  rw [if_pos h1, h2, List.getElem?_eq_getElem hi]
  simp only [Option.bind_some, hi, if_true]

theorem p_lock_Take (t : List Int) (i : Nat) (v : Int) (hi : t[i]? = some 0) (hl : t.length ≤ 1000000) (hv : 1 ≤ v) : F_k38 t i v = some (t.set i v, 0) := by
  have hlt := (List.getElem?_eq_some_iff.1 hi).1
  have e1 : decide ((0 : Int) ≤ (i : Int) ∧ (i : Int) < (t.length : Int)) = true := decide_eq_true (by omega)
  have e2 : sFree t (i : Int) = true := by unfold sFree; simp [hi]
  simp only [F_k38, pk_k38, p_lock_is, p_lock_Free, Option.bind_some, p_lock_set t i v hlt hl, e1, e2, Bool.true_eq_false, if_false]
  rw [if_neg (by omega)]

theorem p_lock_Give (t : List Int) (i : Nat) (v : Int) (hi : t[i]? = some v) (hl : t.length ≤ 1000000) (hv : 1 ≤ v) : F_k36 t i v = some (t.set i 0, 0) := by
  have hlt := (List.getElem?_eq_some_iff.1 hi).1
  have e1 : decide ((0 : Int) ≤ (i : Int) ∧ (i : Int) < (t.length : Int)) = true := decide_eq_true (by omega)
  have e3 : ((i : Nat) : Int).toNat = i := by omega
  simp only [F_k36, pk_k36, p_lock_is, Option.bind_some, p_lock_set t i 0 hlt hl, e1, e3, hi, Bool.true_eq_false, if_false, if_true]
  rw [if_neg (by omega), if_pos (by omega)]

def sAdj (p : Pot) (d : Int) : Pot × Int :=
  if ¬ (1 ≤ p.most ∧ p.most ≤ 1000 ∧ 0 ≤ p.taken ∧ p.taken ≤ p.most) ∨ d < -p.taken then (p, 1)
  else if p.most - p.taken < d then (p, 6) else (⟨p.taken + d, p.most⟩, 0)

theorem p_pot_may (p : Pot) : F_k4f p = some (decide (1 ≤ p.most ∧ p.most ≤ 1000 ∧ 0 ≤ p.taken ∧ p.taken ≤ p.most)) := by
  simp only [F_k4f, pk_k4f]
  repeat' split
  all_goals first
    | (congr 1; rw [decide_eq_decide]; omega)
    | (congr 1; exact (decide_eq_false (by omega)).symm)

theorem p_pot_Adjust (p : Pot) (d : Int) (hd : -1000000 ≤ d ∧ d ≤ 1000000) : F_k4d p d = some (sAdj p d) := by
  simp only [F_k4d, pk_k4d, p_pot_may, Option.bind_some]
  by_cases h : 1 ≤ p.most ∧ p.most ≤ 1000 ∧ 0 ≤ p.taken ∧ p.taken ≤ p.most
  · rw [decide_eq_true h, if_neg (by simp)]
    have e0 : IntKind.i64.wrap (-p.taken) = -p.taken := i64_id (by omega) (by omega)
    have e1 : IntKind.i64.wrap (p.taken + d) = p.taken + d := i64_id (by omega) (by omega)
    have e2 : IntKind.i64.wrap (p.most - p.taken) = p.most - p.taken := i64_id (by omega) (by omega)
    simp only [F_ka4, pk_ka4, e0, e1, e2, sAdj]
    by_cases h1 : d < -p.taken
    · rw [if_pos h1, if_pos (.inr h1)]
    · rw [if_neg h1, if_neg (show ¬ (¬ (1 ≤ p.most ∧ p.most ≤ 1000 ∧ 0 ≤ p.taken ∧ p.taken ≤ p.most) ∨ d < -p.taken) from fun hh => hh.elim (fun q => q h) h1)]
      by_cases h2 : d < 0
      · rw [if_pos h2, if_neg (by omega)]
      · rw [if_neg h2, if_neg (by omega), if_neg h2, if_neg (by omega)]
        by_cases h3 : p.most - p.taken < d
        · rw [if_pos h3, if_pos h3]; simp
        · rw [if_neg h3, if_neg h3]; simp
  · rw [decide_eq_false h, if_pos rfl, sAdj, if_pos (.inl h)]

theorem p_shard_empty (a : Acc) : F_kaf a = some (decide (a.base = 0 ∧ a.txs = [])) := by
  simp only [F_kaf, pk_kaf]
  split
  · rename_i h; simp [h]
  · rename_i h; simp [h]
theorem p_r11_empty (a : Acc) : F_k83 a = some (decide (a.base = 0 ∧ a.txs = [])) := by
  simp only [F_k83, pk_k83]
  split
  · rename_i h; simp [h]
  · rename_i h; simp [h]

end Go.Vm

/- Layers 11 and 16, plain: what a step of a task comes to, and what it keeps. -/
set_option linter.unusedVariables false
set_option linter.unusedSimpArgs false
namespace Go.Vm
open Go Go.RowKit

def emp (a : Acc) : Bool := decide (a.base = 0 ∧ a.txs = [])
def zShd : Shard := ⟨[], 0⟩
def sAccs (per n k : Int) : Int → List Acc → Bool
  | _, [] => true
  | last, a :: l => (sAcc a per && !emp a && decide (last < a.sender) && decide (sShd a.sender n = k)) && sAccs per n k a.sender l
def sChkS (c : Config) (k : Int) (s : Shard) : Bool := decide (0 ≤ s.version ∧ s.version ≤ 1099511627776) && sAccs c.per c.shards k (-1) s.accounts

def sInsA (a : Acc) : List Acc → List Acc
  | [] => [a]
  | x :: l => if a.sender < x.sender then a :: x :: l else x :: sInsA a l
def sDelA (l : List Acc) (n : Int) : List Acc := l.filter fun x => !decide (x.sender = n)
def sSetL (l : List Acc) (a : Acc) : List Acc := if emp a = true then sDelA l a.sender else sInsA a (sDelA l a.sender)
def sSet (s : Shard) (a : Acc) : Shard := ⟨sSetL s.accounts a, if s.version < 0 ∨ 1099511627776 ≤ s.version then 0 else s.version + 1⟩

theorem accs_cons {per n k last : Int} {a : Acc} {l : List Acc} : sAccs per n k last (a :: l) = true ↔ (sAcc a per = true ∧ emp a = false ∧ last < a.sender ∧ sShd a.sender n = k) ∧ sAccs per n k a.sender l = true := by
  simp [sAccs, and_assoc]

theorem accs_mono {per n k : Int} : ∀ {l : List Acc} {last last' : Int}, last' ≤ last → sAccs per n k last l = true → sAccs per n k last' l = true
  | [], _, _, _, _ => rfl
  | a :: l, last, last', h, hl => by
    rw [accs_cons] at hl ⊢
    exact ⟨⟨hl.1.1, hl.1.2.1, by have := hl.1.2.2.1; omega, hl.1.2.2.2⟩, hl.2⟩

theorem accs_filter {per n k : Int} (p : Acc → Bool) : ∀ {l : List Acc} {last : Int}, sAccs per n k last l = true → sAccs per n k last (l.filter p) = true
  | [], _, _ => rfl
  | a :: l, last, hl => by
    rw [accs_cons] at hl
    rw [List.filter_cons]
    split
    · exact accs_cons.2 ⟨hl.1, accs_filter p hl.2⟩
    · exact accs_mono (by have := hl.1.2.2.1; omega) (accs_filter p hl.2)

theorem accs_ins {per n k : Int} {a : Acc} (ha : sAcc a per = true) (he : emp a = false) (hs : sShd a.sender n = k) : ∀ {l : List Acc} {last : Int}, last < a.sender → (∀ x ∈ l, x.sender ≠ a.sender) → sAccs per n k last l = true → sAccs per n k last (sInsA a l) = true
  | [], last, h1, _, _ => accs_cons.2 ⟨⟨ha, he, h1, hs⟩, rfl⟩
  | x :: l, last, h1, h2, hl => by
    rw [accs_cons] at hl
    unfold sInsA
    split
    · rename_i h
      exact accs_cons.2 ⟨⟨ha, he, h1, hs⟩, accs_cons.2 ⟨⟨hl.1.1, hl.1.2.1, h, hl.1.2.2.2⟩, hl.2⟩⟩
    · rename_i h
      have := h2 x (List.mem_cons_self)
      exact accs_cons.2 ⟨hl.1, accs_ins ha he hs (by omega) (fun y hy => h2 y (List.mem_cons_of_mem _ hy)) hl.2⟩

theorem accs_set {per n k last : Int} {a : Acc} {l : List Acc} (hl : sAccs per n k last l = true) (ha : sAcc a per = true) (hs : sShd a.sender n = k) (h1 : last < a.sender) : sAccs per n k last (sSetL l a) = true := by
  unfold sSetL
  have hd : sAccs per n k last (sDelA l a.sender) = true := accs_filter _ hl
  split
  · exact hd
  · rename_i he
    refine accs_ins ha (by simpa using he) hs h1 (fun x hx => ?_) hd
    have := (List.mem_filter.1 hx).2
    simpa using this

theorem chkS_set {c : Config} {k : Int} {s : Shard} {a : Acc} (h : sChkS c k s = true) (ha : sAcc a c.per = true) (hs : sShd a.sender c.shards = k) : sChkS c k (sSet s a) = true := by
  simp only [sChkS, Bool.and_eq_true, decide_eq_true_eq] at h ⊢
  refine ⟨?_, accs_set h.2 ha hs (by have := (sAcc_spec.1 ha).1; omega)⟩
  simp only [sSet]
  split
  · omega
  · omega

theorem accs_len {per n k : Int} : ∀ {l : List Acc} {last : Int}, sAccs per n k last l = true → last ≤ 255 → (l.length : Int) ≤ 255 - last
  | [], last, _, h => by simp; omega
  | a :: l, last, hl, h => by
    rw [accs_cons] at hl
    have hb := (sAcc_spec.1 hl.1.1).1
    have := accs_len hl.2 (by omega)
    have := hl.1.2.2.1
    simp only [List.length_cons]
    omega

theorem accs_mem {per n k : Int} : ∀ {l : List Acc} {last : Int}, sAccs per n k last l = true → ∀ a ∈ l, sAcc a per = true ∧ emp a = false ∧ sShd a.sender n = k
  | [], _, _, a, h => by cases h
  | x :: l, last, hl, a, h => by
    rw [accs_cons] at hl
    rcases List.mem_cons.1 h with rfl | h
    · exact ⟨hl.1.1, hl.1.2.1, hl.1.2.2.2⟩
    · exact accs_mem hl.2 a h

theorem getA_acc {per n k last : Int} {l : List Acc} (hl : sAccs per n k last l = true) {s : Int} (h0 : 0 ≤ s) (h1 : s ≤ 255) (hp : 1 ≤ per ∧ per ≤ 16) : sAcc (sGetA l s) per = true ∧ (sGetA l s).sender = s := by
  unfold sGetA
  cases hf : l.find? (fun a => decide (a.sender = s)) with
  | none =>
    refine ⟨sAcc_spec.2 ⟨by simp; omega, rfl⟩, rfl⟩
  | some a =>
    exact ⟨(accs_mem hl a (List.mem_of_find?_eq_some hf)).1, by simpa using List.find?_some hf⟩

def allI {α : Type} (p : Nat → α → Bool) : Nat → List α → Bool
  | _, [] => true
  | i, a :: l => p i a && allI p (i + 1) l
theorem allI_iff {α : Type} {p : Nat → α → Bool} : ∀ {l : List α} {i : Nat}, allI p i l = true ↔ ∀ (j : Nat) a, l[j]? = some a → p (i + j) a = true
  | [], i => by simp [allI]
  | x :: l, i => by
    simp only [allI, Bool.and_eq_true, allI_iff (l := l)]
    constructor
    · rintro ⟨h1, h2⟩ j a h
      cases j with
      | zero => simp at h; subst h; exact h1
      | succ j =>
        have := h2 j a (by simpa using h)
        rwa [show i + 1 + j = i + (j + 1) from by omega] at this
    · intro h
      refine ⟨h 0 x rfl, fun j a hj => ?_⟩
      rw [show i + 1 + j = i + (j + 1) from by omega]
      exact h (j + 1) a (by simpa using hj)

def sMay (x : Sight) : Bool :=
  sCfg x.config && decide ((x.locks.length : Int) = x.config.shards ∧ (x.shards.length : Int) = x.config.shards ∧ x.pot.most = x.config.hard ∧ 0 ≤ x.pot.taken ∧ x.pot.taken ≤ x.config.hard)
    && allI (fun i s => decide (0 ≤ (x.locks[i]?).getD 0) && sChkS x.config i s) 0 x.shards

theorem sCfg_spec {c : Config} : sCfg c = true ↔ (1 ≤ c.shards ∧ c.shards ≤ 8 ∧ 0 ≤ c.soft ∧ c.soft ≤ c.hard ∧ 1 ≤ c.hard ∧ c.hard ≤ 1000 ∧ 1 ≤ c.per ∧ c.per ≤ 16 ∧ 0 ≤ c.bump ∧ c.bump ≤ 100 ∧ 1 ≤ c.feed ∧ c.feed ≤ 16 ∧ 1 ≤ c.workers ∧ c.workers ≤ 4 ∧ 1 ≤ c.room ∧ c.room ≤ 8) := by
  unfold sCfg; rw [decide_eq_true_eq]

structure MayS (x : Sight) : Prop where
  cfg : sCfg x.config = true
  llen : (x.locks.length : Int) = x.config.shards
  slen : (x.shards.length : Int) = x.config.shards
  most : x.pot.most = x.config.hard
  tk0 : 0 ≤ x.pot.taken
  tk1 : x.pot.taken ≤ x.config.hard
  lk : ∀ (i : Nat) v, x.locks[i]? = some v → 0 ≤ v
  sh : ∀ (i : Nat) s, x.shards[i]? = some s → sChkS x.config i s = true

theorem may_spec {x : Sight} : sMay x = true ↔ MayS x := by
  simp only [sMay, Bool.and_eq_true, decide_eq_true_eq, allI_iff, Nat.zero_add]
  constructor
  · rintro ⟨⟨h1, h2, h3, h4, h5, h6⟩, h7⟩
    refine ⟨h1, h2, h3, h4, h5, h6, fun i v hv => ?_, fun i s hs => (h7 i s hs).2⟩
    have hi := (List.getElem?_eq_some_iff.1 hv).1
    have hl : i < x.shards.length := by omega
    have := (h7 i _ (List.getElem?_eq_getElem hl)).1
    rwa [hv] at this
  · rintro ⟨h1, h2, h3, h4, h5, h6, h7, h8⟩
    refine ⟨⟨h1, h2, h3, h4, h5, h6⟩, fun i s hs => ⟨?_, h8 i s hs⟩⟩
    have hi := (List.getElem?_eq_some_iff.1 hs).1
    have hl : i < x.locks.length := by omega
    have := h7 i _ (List.getElem?_eq_getElem hl)
    rwa [List.getElem?_eq_getElem hl]

def sEnd (t : Task) (r : Result) (ph : Int) : Task := { t with phase := ph, result := r, point := true }
def sK (t : Task) (x : Sight) : Int := sShd t.sender x.config.shards
def sAble (t : Task) (who : Int) (x : Sight) : Bool :=
  if who < 1 ∨ t.phase < 0 ∨ 5 < t.phase ∨ sMay x = false then false
  else if t.phase = 0 then true
  else if t.phase = 1 then sFree x.locks (sK t x)
  else decide (0 ≤ sK t x) && decide (x.locks[(sK t x).toNat]? = some who)
def sShard (t : Task) (x : Sight) : Shard := (x.shards[(sK t x).toNat]?).getD zShd
def sSee (t : Task) (x : Sight) : Plan := sLook x.config (sGetA (sShard t x).accounts t.sender) t.op.kind t.op.nonce (L t.op.data)

def sStep (t : Task) (who : Int) (x : Sight) : Task × Sight × List Event × Bool :=
  if sAble t who x = false then (t, x, [], false)
  else if t.phase = 0 then
    if (sWhose t.op.kind t.op.sender (L t.op.data)).2 = true then ({ t with sender := (sWhose t.op.kind t.op.sender (L t.op.data)).1, phase := 1 }, x, [], false)
    else (sEnd t (sLook x.config ⟨-1, 0, []⟩ t.op.kind t.op.nonce (L t.op.data)).result 6, x, [], true)
  else if t.phase = 1 then ({ t with phase := 2 }, { x with locks := x.locks.set (sK t x).toNat who }, [], false)
  else if t.phase = 2 then
    if (sSee t x).changes = true then ({ t with plan := sSee t x, phase := 3 }, x, [], false)
    else (sEnd { t with plan := sSee t x } (sSee t x).result 5, x, [], true)
  else if t.phase = 3 then
    if (sAdj x.pot t.plan.delta).2 = 0 then (sEnd t t.plan.result 4, { x with pot := (sAdj x.pot t.plan.delta).1 }, t.plan.events, true)
    else (sEnd t (sFull t.plan) 5, x, [], true)
  else if t.phase = 4 then ({ t with phase := 5 }, { x with shards := x.shards.set (sK t x).toNat (sSet (sShard t x) t.plan.after) }, [], false)
  else ({ t with phase := 6 }, { x with locks := x.locks.set (sK t x).toNat 0 }, [], false)

structure TInv (o : Op) (t : Task) (x : Sight) : Prop where
  op : t.op = o
  may : MayS x
  ph0 : 0 ≤ t.phase
  ph1 : t.phase ≤ 6
  pt : t.point = decide (4 ≤ t.phase)
  snd : 1 ≤ t.phase → t.phase ≤ 5 → 0 ≤ t.sender ∧ t.sender ≤ 255
  plan : t.phase = 3 ∨ t.phase = 4 → sAcc t.plan.after x.config.per = true ∧ t.plan.after.sender = t.sender ∧ -1000 ≤ t.plan.delta ∧ t.plan.delta ≤ 1000
  fewA : t.plan.after.txs.length ≤ 1000
  fewE : t.plan.events.length ≤ 1000
  fewP : t.plan.result.txs.length ≤ 1000
  fewR : t.result.txs.length ≤ 1000

theorem whose_range {k s : Int} {l : List UInt8} (h : (sWhose k s l).2 = true) : 0 ≤ (sWhose k s l).1 ∧ (sWhose k s l).1 ≤ 255 := by
  unfold sWhose at h ⊢
  split at h
  · rename_i hk
    rw [if_pos hk]
    cases hd : sDec l with
    | none => simp [decR, zTx]
    | some t =>
      have := sTx_spec (sDec_ok hd)
      simp only [decR]
      omega
  · rename_i hk
    rw [if_neg hk]
    split at h
    · cases h
    · rename_i hk2
      rw [if_neg hk2]
      simp only
      omega

theorem able_spec {t : Task} {who : Int} {x : Sight} (h : sAble t who x = true) : 1 ≤ who ∧ 0 ≤ t.phase ∧ t.phase ≤ 5 ∧ MayS x ∧ (t.phase = 1 → sFree x.locks (sK t x) = true) ∧ (2 ≤ t.phase → 0 ≤ sK t x ∧ x.locks[(sK t x).toNat]? = some who) := by
  unfold sAble at h
  split at h
  · cases h
  rename_i h1
  simp only [not_or] at h1
  have hm : MayS x := may_spec.1 (by have := h1.2.2.2; simpa using this)
  refine ⟨by omega, by omega, by omega, hm, fun hp => ?_, fun hp => ?_⟩
  · rw [if_neg (by omega), if_pos hp] at h; exact h
  · rw [if_neg (by omega), if_neg (by omega)] at h
    simpa using h

theorem free_spec {l : List Int} {k : Int} (h : sFree l k = true) : 0 ≤ k ∧ l[k.toNat]? = some 0 := by
  simpa [sFree] using h

theorem may_lock {x : Sight} (h : MayS x) (k : Nat) (v : Int) (hv : 0 ≤ v) : MayS { x with locks := x.locks.set k v } := by
  refine ⟨h.cfg, by simpa using h.llen, h.slen, h.most, h.tk0, h.tk1, fun i w hw => ?_, h.sh⟩
  simp only [List.getElem?_set] at hw
  split at hw
  · split at hw
    · injection hw with hw; omega
    · cases hw
  · exact h.lk i w hw

theorem may_shards {x : Sight} (h : MayS x) (k : Nat) (s : Shard) (hs : k < x.shards.length → sChkS x.config k s = true) : MayS { x with shards := x.shards.set k s } := by
  refine ⟨h.cfg, h.llen, by simpa using h.slen, h.most, h.tk0, h.tk1, h.lk, fun i w hw => ?_⟩
  simp only [List.getElem?_set] at hw
  split at hw
  · rename_i e
    subst e
    split at hw
    · rename_i hk; injection hw with hw; subst hw; exact hs hk
    · cases hw
  · exact h.sh i w hw

theorem may_pot {x : Sight} (h : MayS x) (d : Int) (hd : (sAdj x.pot d).2 = 0) : MayS { x with pot := (sAdj x.pot d).1 } := by
  have h1 := h.most; have h2 := h.tk0; have h3 := h.tk1
  unfold sAdj at hd ⊢
  split at hd
  · simp at hd
  rename_i g1
  split at hd
  · simp at hd
  rename_i g2
  rw [if_neg g1, if_neg g2]
  refine ⟨h.cfg, h.llen, h.slen, h1, ?_, ?_, h.lk, h.sh⟩
  · simp only; omega
  · simp only; omega

theorem len_of {α : Type} {l : List α} {i : Nat} {x : α} (h : l[i]? = some x) : i < l.length := (List.getElem?_eq_some_iff.1 h).1

theorem see_few {o : Op} {t : Task} {x : Sight} {who : Int} (h : TInv o t x) (ha : sAble t who x = true) (hp : t.phase = 2) :
    sAcc (sGetA (sShard t x).accounts t.sender) x.config.per = true ∧ (sGetA (sShard t x).accounts t.sender).sender = t.sender := by
  obtain ⟨_, _, _, hm, _, hk⟩ := able_spec ha
  obtain ⟨hk0, hkl⟩ := hk (by omega)
  have hlen := len_of hkl
  have hs : (sK t x).toNat < x.shards.length := by have := hm.llen; have := hm.slen; omega
  have hc := hm.sh _ _ (List.getElem?_eq_getElem hs)
  have hsn := h.snd (by omega) (by omega)
  have hcf := sCfg_spec.1 hm.cfg
  have e : sShard t x = x.shards[(sK t x).toNat] := by unfold sShard; rw [List.getElem?_eq_getElem hs]; rfl
  rw [e]
  simp only [sChkS, Bool.and_eq_true] at hc
  exact getA_acc hc.2 hsn.1 hsn.2 (by omega)

theorem err_of_changes {c : Config} {a : Acc} {k n : Int} {l : List UInt8} (h : (sLook c a k n l).changes = true) : (sLook c a k n l).result.err = 0 := by
  by_cases he : (sLook c a k n l).result.err = 0
  · exact he
  · obtain ⟨e, hw⟩ := wrong_err he
    rw [hw] at h
    simp [wrong] at h

structure Stp (t : Task) (who : Int) (x : Sight) (r : Task × Sight × List Event × Bool) : Prop where
  cfg : r.2.1.config = x.config
  once : r.2.2.2 = true → t.point = false
  evs : r.2.2.1.length ≠ 0 → r.2.2.2 = true
  pt : r.1.point = (t.point || r.2.2.2)
  res : t.point = true → r.1.result = t.result
  ahead : r.1.point = false → r.2.1.pot = x.pot ∧ r.2.1.shards = x.shards
  locks : ∀ (k : Nat) v w, x.locks[k]? = some v → r.2.1.locks[k]? = some w → w = v ∨ (v = who ∧ w = 0) ∨ (v = 0 ∧ w = who)
  shards : ∀ (k : Nat), r.2.1.shards[k]? ≠ x.shards[k]? → x.locks[k]? = some who
  llen : r.2.1.locks.length = x.locks.length
  slen : r.2.1.shards.length = x.shards.length
  still : sAble t who x = false → r = (t, x, [], false)

theorem stp_same {t u : Task} {who : Int} {x : Sight} (hp : u.point = t.point) (hr : t.point = true → u.result = t.result) (ha : sAble t who x = false → u = t) : Stp t who x (u, x, [], false) :=
  ⟨rfl, by simp, by simp, by simp [hp], hr, fun _ => ⟨rfl, rfl⟩, fun k v w h1 h2 => .inl (by simp only [h1] at h2; injection h2 with h2; exact h2.symm), fun k h => absurd rfl h, rfl, rfl, fun h => by rw [ha h]⟩

theorem stp_end {t u : Task} {who : Int} {x : Sight} (hp : t.point = false) (hu : u.point = true) (ha : sAble t who x = true) : Stp t who x (u, x, [], true) :=
  ⟨rfl, fun _ => hp, by simp, by simp [hp, hu], by simp [hp], fun h => by simp [hu] at h, fun k v w h1 h2 => .inl (by simp only [h1] at h2; injection h2 with h2; exact h2.symm), fun k h => absurd rfl h, rfl, rfl, fun h => by rw [ha] at h; cases h⟩

theorem step_all {o : Op} {t : Task} {who : Int} {x : Sight} (h : TInv o t x) (hw : 1 ≤ who) : TInv o (sStep t who x).1 (sStep t who x).2.1 ∧ Stp t who x (sStep t who x) := by
  unfold sStep
  cases ha : sAble t who x with
  | false => rw [if_pos rfl]; exact ⟨h, stp_same rfl (fun _ => rfl) fun _ => rfl⟩
  | true =>
  rw [if_neg (by simp)]
  obtain ⟨_, hp0, hp5, hm, hfr, hk⟩ := able_spec ha
  have hpt := h.pt
  split
  · rename_i h0
    have hpf : t.point = false := by rw [hpt]; exact decide_eq_false (by omega)
    split
    · rename_i hwh
      refine ⟨⟨h.op, hm, by simp, by simp, by simp [hpf], fun _ _ => whose_range hwh, by simp, h.fewA, h.fewE, h.fewP, h.fewR⟩, stp_same rfl (fun _ => rfl) (by rw [ha]; simp)⟩
    · have hl := sLook_len x.config ⟨-1, 0, []⟩ t.op.kind t.op.nonce (L t.op.data)
      refine ⟨⟨h.op, hm, by simp [sEnd], by simp [sEnd], by simp [sEnd], by simp [sEnd], by simp [sEnd], h.fewA, h.fewE, h.fewP, ?_⟩, stp_end hpf rfl ha⟩
      have := hl.2.2
      simp only [List.length_nil, sEnd] at this ⊢
      omega
  · rename_i h0
    split
    · rename_i h1
      have hpf : t.point = false := by rw [hpt]; exact decide_eq_false (by omega)
      obtain ⟨hk0, hkl⟩ := free_spec (hfr h1)
      refine ⟨⟨h.op, may_lock hm _ _ (by omega), by simp, by simp, by simp [hpf], fun _ _ => h.snd (by omega) (by omega), by simp, h.fewA, h.fewE, h.fewP, h.fewR⟩, ?_⟩
      refine ⟨rfl, by simp, by simp, by simp, fun _ => rfl, fun _ => ⟨rfl, rfl⟩, fun k v w g1 g2 => ?_, fun k g => absurd rfl g, by simp, rfl, by rw [ha]; simp⟩
      simp only [List.getElem?_set] at g2
      split at g2
      · rename_i e
        subst e
        rw [hkl] at g1
        injection g1 with g1
        split at g2
        · injection g2 with g2; exact .inr (.inr ⟨g1.symm, g2.symm⟩)
        · cases g2
      · rw [g1] at g2; injection g2 with g2; exact .inl g2.symm
    · rename_i h1
      obtain ⟨hk0, hkl⟩ := hk (by omega)
      have hkn := len_of hkl
      split
      · rename_i h2
        have hpf : t.point = false := by rw [hpt]; exact decide_eq_false (by omega)
        have hl := sLook_len x.config (sGetA (sShard t x).accounts t.sender) t.op.kind t.op.nonce (L t.op.data)
        obtain ⟨hacc, hsn⟩ := see_few h ha h2
        have hcf := sCfg_spec.1 hm.cfg
        have hfew : (sGetA (sShard t x).accounts t.sender).txs.length ≤ 16 := by have := (sAcc_spec.1 hacc).1; omega
        obtain ⟨l1, l2, l3⟩ := hl
        split
        · rename_i hch
          obtain ⟨g1, g2, g3, g4⟩ := plan_may hacc (err_of_changes hch) hch
          have r1 := sQ_range (sSee t x).after.txs
          have r2 := sQ_range (sGetA (sShard t x).accounts t.sender).txs
          refine ⟨⟨h.op, hm, by simp, by simp, by simp [hpf], fun _ _ => h.snd (by omega) (by omega), fun _ => ⟨g1, g3.trans hsn, ?_, ?_⟩, ?_, ?_, ?_, h.fewR⟩, stp_same rfl (fun _ => rfl) (by rw [ha]; simp)⟩
          · show -1000 ≤ (sSee t x).delta
            unfold sSee at r1 ⊢; rw [g2]; omega
          · show (sSee t x).delta ≤ 1000
            unfold sSee at r1 ⊢; rw [g2]; omega
          · exact Nat.le_trans l1 (by omega)
          · exact Nat.le_trans l2 (by omega)
          · exact Nat.le_trans l3 (by omega)
        · refine ⟨⟨h.op, hm, by simp [sEnd], by simp [sEnd], by simp [sEnd], fun _ _ => h.snd (by omega) (by omega), by simp [sEnd], ?_, ?_, ?_, ?_⟩, stp_end hpf rfl ha⟩
          · exact Nat.le_trans l1 (by omega)
          · exact Nat.le_trans l2 (by omega)
          · exact Nat.le_trans l3 (by omega)
          · exact Nat.le_trans l3 (by omega)
      · rename_i h2
        split
        · rename_i h3
          have hpf : t.point = false := by rw [hpt]; exact decide_eq_false (by omega)
          split
          · rename_i hz
            refine ⟨⟨h.op, may_pot hm _ hz, by simp [sEnd], by simp [sEnd], by simp [sEnd], fun _ _ => h.snd (by omega) (by omega), fun _ => h.plan (.inl h3), h.fewA, h.fewE, h.fewP, h.fewP⟩, ?_⟩
            exact ⟨rfl, fun _ => hpf, fun _ => rfl, by simp [hpf, sEnd], by simp [hpf], by simp [sEnd], fun k v w g1 g2 => .inl (by simp only [g1] at g2; injection g2 with g2; exact g2.symm), fun k g => absurd rfl g, rfl, rfl, by rw [ha]; simp⟩
          · refine ⟨⟨h.op, hm, by simp [sEnd], by simp [sEnd], by simp [sEnd], fun _ _ => h.snd (by omega) (by omega), by simp [sEnd], h.fewA, h.fewE, h.fewP, ?_⟩, stp_end hpf rfl ha⟩
            simp only [sEnd, sFull]
            split
            · simp
            · exact h.fewP
        · rename_i h3
          split
          · rename_i h4
            have hpf : t.point = true := by rw [hpt]; exact decide_eq_true (by omega)
            obtain ⟨g1, g2, _, _⟩ := h.plan (.inr h4)
            have hs : (sK t x).toNat < x.shards.length := by have := hm.llen; have := hm.slen; omega
            have hc := hm.sh _ _ (List.getElem?_eq_getElem hs)
            have e : sShard t x = x.shards[(sK t x).toNat] := by unfold sShard; rw [List.getElem?_eq_getElem hs]; rfl
            have hkk : (((sK t x).toNat : Nat) : Int) = sK t x := by omega
            refine ⟨⟨h.op, may_shards hm _ _ fun _ => ?_, by simp, by simp, by simp [hpf], fun _ _ => h.snd (by omega) (by omega), by simp, h.fewA, h.fewE, h.fewP, h.fewR⟩, ?_⟩
            · rw [e]
              refine chkS_set hc g1 ?_
              rw [g2, hkk]; rfl
            · refine ⟨rfl, by simp, by simp, by simp, fun _ => rfl, by simp [hpf], fun k v w g1 g2 => .inl (by simp only [g1] at g2; injection g2 with g2; exact g2.symm), fun k g => ?_, rfl, by simp, by rw [ha]; simp⟩
              simp only [List.getElem?_set] at g
              by_cases ek : (sK t x).toNat = k
              · rw [← ek]; exact hkl
              · rw [if_neg ek] at g; exact absurd rfl g
          · rename_i h4
            have hpf : t.point = true := by rw [hpt]; exact decide_eq_true (by omega)
            refine ⟨⟨h.op, may_lock hm _ _ (by omega), by simp, by simp, by simp [hpf], by simp, by simp, h.fewA, h.fewE, h.fewP, h.fewR⟩, ?_⟩
            refine ⟨rfl, by simp, by simp, by simp, fun _ => rfl, by simp [hpf], fun k v w g1 g2 => ?_, fun k g => absurd rfl g, by simp, rfl, by rw [ha]; simp⟩
            simp only [List.getElem?_set] at g2
            split at g2
            · rename_i e
              subst e
              rw [hkl] at g1
              injection g1 with g1
              injection g2 with g2
              exact .inr (.inl ⟨g1.symm, g2.symm⟩)
            · rw [g1] at g2; injection g2 with g2; exact .inl g2.symm

end Go.Vm

/- Layers 11 and 13, plain: accounts of all shards in one row; what the pool does with a row. -/
set_option linter.unusedVariables false
set_option linter.unusedSimpArgs false
namespace Go.Vm
open Go Go.RowKit

abbrev Rise (l : List Acc) : Prop := l.Pairwise fun a b => a.sender < b.sender
theorem rise_cons {a : Acc} {l : List Acc} : Rise (a :: l) ↔ (∀ x ∈ l, a.sender < x.sender) ∧ Rise l := List.pairwise_cons

theorem rise_accs {per n k : Int} : ∀ {l : List Acc} {last : Int}, sAccs per n k last l = true → Rise l ∧ ∀ a ∈ l, last < a.sender
  | [], _, _ => ⟨List.Pairwise.nil, by simp⟩
  | a :: l, last, h => by
    rw [accs_cons] at h
    obtain ⟨h1, h2⟩ := rise_accs h.2
    refine ⟨List.Pairwise.cons h2 h1, fun x hx => ?_⟩
    rcases List.mem_cons.1 hx with rfl | hx
    · exact h.1.2.2.1
    · have := h2 x hx; have := h.1.2.2.1; omega

theorem accs_rise {per n k : Int} : ∀ {l : List Acc} {last : Int}, Rise l → (∀ a ∈ l, last < a.sender ∧ sAcc a per = true ∧ emp a = false ∧ sShd a.sender n = k) → sAccs per n k last l = true
  | [], _, _, _ => rfl
  | a :: l, last, h, hl => by
    rw [rise_cons] at h
    obtain ⟨h1, h2, h3, h4⟩ := hl a (List.mem_cons_self)
    exact accs_cons.2 ⟨⟨h2, h3, h1, h4⟩, accs_rise h.2 fun x hx => ⟨h.1 x hx, (hl x (List.mem_cons_of_mem _ hx)).2⟩⟩

theorem rise_ext : ∀ {l m : List Acc}, Rise l → Rise m → (∀ a, a ∈ l ↔ a ∈ m) → l = m
  | [], [], _, _, _ => rfl
  | [], b :: m, _, _, h => absurd ((h b).2 List.mem_cons_self) (by simp)
  | a :: l, [], _, _, h => absurd ((h a).1 List.mem_cons_self) (by simp)
  | a :: l, b :: m, hl, hm, h => by
    rw [rise_cons] at hl hm
    have e : a = b := by
      rcases List.mem_cons.1 ((h a).1 List.mem_cons_self) with e | h1
      · exact e
      rcases List.mem_cons.1 ((h b).2 List.mem_cons_self) with e | h2
      · exact e.symm
      have := hl.1 b h2; have := hm.1 a h1; omega
    subst e
    refine congrArg _ (rise_ext hl.2 hm.2 fun x => ?_)
    constructor
    · intro hx
      rcases List.mem_cons.1 ((h x).1 (List.mem_cons_of_mem _ hx)) with e | h1
      · subst e; have := hl.1 x hx; omega
      · exact h1
    · intro hx
      rcases List.mem_cons.1 ((h x).2 (List.mem_cons_of_mem _ hx)) with e | h1
      · subst e; have := hm.1 x hx; omega
      · exact h1

theorem mem_ins {a x : Acc} : ∀ {l : List Acc}, x ∈ sInsA a l ↔ x = a ∨ x ∈ l
  | [] => by simp [sInsA]
  | b :: l => by
    unfold sInsA
    split
    · simp
    · simp only [List.mem_cons, mem_ins (l := l)]
      constructor
      · rintro (h | h | h)
        · exact .inr (.inl h)
        · exact .inl h
        · exact .inr (.inr h)
      · rintro (h | h | h)
        · exact .inr (.inl h)
        · exact .inl h
        · exact .inr (.inr h)

theorem rise_ins {a : Acc} : ∀ {l : List Acc}, Rise l → (∀ x ∈ l, x.sender ≠ a.sender) → Rise (sInsA a l)
  | [], _, _ => by simp [sInsA]
  | b :: l, h, hn => by
    have h' := h
    rw [rise_cons] at h
    unfold sInsA
    split
    · rename_i hlt
      refine List.Pairwise.cons (fun x hx => ?_) h'
      rcases List.mem_cons.1 hx with rfl | hx
      · exact hlt
      · have := h.1 x hx; omega
    · rename_i hlt
      have := hn b List.mem_cons_self
      refine List.Pairwise.cons (fun x hx => ?_) (rise_ins h.2 fun x hx => hn x (List.mem_cons_of_mem _ hx))
      rcases mem_ins.1 hx with rfl | hx
      · omega
      · exact h.1 x hx

theorem mem_set {a x : Acc} {l : List Acc} : x ∈ sSetL l a ↔ (x = a ∧ emp a = false) ∨ (x ∈ l ∧ x.sender ≠ a.sender) := by
  unfold sSetL
  have hd : ∀ x, x ∈ sDelA l a.sender ↔ x ∈ l ∧ x.sender ≠ a.sender := fun x => by simp [sDelA]
  cases he : emp a with
  | true => simp [hd]
  | false => simp [mem_ins, hd]

theorem rise_set {a : Acc} {l : List Acc} (h : Rise l) : Rise (sSetL l a) := by
  unfold sSetL
  have hd : Rise (sDelA l a.sender) := h.filter _
  split
  · exact hd
  · refine rise_ins hd fun x hx => ?_
    have := (List.mem_filter.1 hx).2
    simpa using this

theorem getA_mem {l : List Acc} (h : Rise l) {a : Acc} (ha : a ∈ l) : sGetA l a.sender = a := by
  unfold sGetA
  have : l.find? (fun x => decide (x.sender = a.sender)) = some a := by
    induction l with
    | nil => cases ha
    | cons b l ih =>
      rw [rise_cons] at h
      rw [List.find?_cons]
      rcases List.mem_cons.1 ha with rfl | ha
      · simp
      · have := h.1 a ha
        rw [decide_eq_false (by omega)]
        exact ih h.2 ha
  rw [this]

theorem getA_none {l : List Acc} {s : Int} (h : ∀ a ∈ l, a.sender ≠ s) : sGetA l s = ⟨s, 0, []⟩ := by
  unfold sGetA
  have : l.find? (fun x => decide (x.sender = s)) = none := by
    rw [List.find?_eq_none]
    intro x hx
    simpa using h x hx
  rw [this]

def sSlots (l : List Acc) : Int := (l.map fun a => sQ a.txs).sum
theorem slots_nil : sSlots [] = 0 := rfl
theorem slots_cons (a : Acc) (l : List Acc) : sSlots (a :: l) = sQ a.txs + sSlots l := by simp [sSlots]
theorem slots_ins (a : Acc) : ∀ l : List Acc, sSlots (sInsA a l) = sQ a.txs + sSlots l
  | [] => by simp [sInsA, slots_cons]
  | b :: l => by
    unfold sInsA
    split
    · simp [slots_cons]
    · rw [slots_cons, slots_cons, slots_ins a l]; omega

theorem slots_del {l : List Acc} (h : Rise l) (s : Int) : sSlots (sDelA l s) = sSlots l - sQ (sGetA l s).txs := by
  induction l with
  | nil => simp [sDelA, sGetA, sSlots, sQ]
  | cons b l ih =>
    rw [rise_cons] at h
    by_cases hb : b.sender = s
    · have hd : sDelA (b :: l) s = l := by
        unfold sDelA
        rw [List.filter_cons]
        simp only [hb, decide_true, Bool.not_true, Bool.false_eq_true, if_false]
        refine List.filter_eq_self.2 fun x hx => ?_
        have := h.1 x hx
        simp; omega
      have hg : sGetA (b :: l) s = b := by unfold sGetA; rw [List.find?_cons]; simp [hb]
      rw [hd, hg, slots_cons]; omega
    · have hd : sDelA (b :: l) s = b :: sDelA l s := by
        unfold sDelA
        rw [List.filter_cons]
        simp [hb]
      have hg : sGetA (b :: l) s = sGetA l s := by unfold sGetA; rw [List.find?_cons]; simp [hb]
      rw [hd, hg, slots_cons, slots_cons, ih h.2]; omega

theorem emp_slots {a : Acc} (h : emp a = true) : sQ a.txs = 0 := by
  simp only [emp, decide_eq_true_eq] at h
  rw [h.2]; rfl

theorem slots_set {l : List Acc} (h : Rise l) (a : Acc) : sSlots (sSetL l a) = sSlots l - sQ (sGetA l a.sender).txs + sQ a.txs := by
  unfold sSetL
  split
  · rename_i he
    rw [slots_del h, emp_slots he]; omega
  · rw [slots_ins, slots_del h]; omega

def sJoinA (m l : List Acc) : List Acc := l.foldl (fun acc a => sInsA a acc) m
def sJoin (L : List Shard) : List Acc := L.foldl (fun acc s => sJoinA acc s.accounts) []

theorem mem_joinA {x : Acc} : ∀ {l m : List Acc}, x ∈ sJoinA m l ↔ x ∈ m ∨ x ∈ l
  | [], m => by simp [sJoinA]
  | a :: l, m => by
    have e : sJoinA m (a :: l) = sJoinA (sInsA a m) l := rfl
    rw [e, mem_joinA, mem_ins, List.mem_cons]
    constructor
    · rintro ((h | h) | h)
      · exact .inr (.inl h)
      · exact .inl h
      · exact .inr (.inr h)
    · rintro (h | h | h)
      · exact .inl (.inr h)
      · exact .inl (.inl h)
      · exact .inr h

theorem rise_joinA : ∀ {l m : List Acc}, Rise m → Rise l → (∀ x ∈ m, ∀ y ∈ l, x.sender ≠ y.sender) → Rise (sJoinA m l)
  | [], m, hm, _, _ => hm
  | a :: l, m, hm, hl, hn => by
    rw [rise_cons] at hl
    refine rise_joinA (l := l) (m := sInsA a m) (rise_ins hm fun x hx => hn x hx a List.mem_cons_self) hl.2 fun x hx y hy => ?_
    rcases mem_ins.1 hx with rfl | hx
    · have := hl.1 y hy; omega
    · exact hn x hx y (List.mem_cons_of_mem _ hy)

theorem slots_joinA : ∀ (l m : List Acc), sSlots (sJoinA m l) = sSlots m + sSlots l
  | [], m => by simp [sJoinA, slots_nil]
  | a :: l, m => by
    have e : sJoinA m (a :: l) = sJoinA (sInsA a m) l := rfl
    rw [e, slots_joinA, slots_ins, slots_cons]; omega

def shsOk (per n : Int) : Nat → List Shard → Prop
  | _, [] => True
  | i, s :: L => sAccs per n i (-1) s.accounts = true ∧ shsOk per n (i + 1) L

theorem shsOk_iff {per n : Int} : ∀ {L : List Shard} {i : Nat}, shsOk per n i L ↔ ∀ (j : Nat) s, L[j]? = some s → sAccs per n ((i + j : Nat) : Int) (-1) s.accounts = true
  | [], i => by simp [shsOk]
  | x :: L, i => by
    simp only [shsOk, shsOk_iff (L := L)]
    constructor
    · rintro ⟨h1, h2⟩ j s h
      cases j with
      | zero => simp at h; subst h; exact h1
      | succ j =>
        have := h2 j s (by simpa using h)
        rwa [show i + 1 + j = i + (j + 1) from by omega] at this
    · intro h
      refine ⟨h 0 x rfl, fun j s hj => ?_⟩
      rw [show i + 1 + j = i + (j + 1) from by omega]
      exact h (j + 1) s (by simpa using hj)

theorem joinF_mem {x : Acc} : ∀ {L : List Shard} {m : List Acc}, x ∈ L.foldl (fun acc s => sJoinA acc s.accounts) m ↔ x ∈ m ∨ ∃ s ∈ L, x ∈ s.accounts
  | [], m => by simp
  | s :: L, m => by
    rw [List.foldl_cons, joinF_mem, mem_joinA]
    simp only [List.mem_cons, exists_eq_or_imp, or_assoc]

theorem joinF_rise {per n : Int} : ∀ {L : List Shard} {m : List Acc} {i : Nat}, shsOk per n i L → Rise m → (∀ x ∈ m, ∃ k : Nat, k < i ∧ sShd x.sender n = k) → Rise (L.foldl (fun acc s => sJoinA acc s.accounts) m)
  | [], m, i, _, hm, _ => hm
  | s :: L, m, i, h, hm, hk => by
    obtain ⟨h1, h2⟩ := h
    rw [List.foldl_cons]
    refine joinF_rise (i := i + 1) h2 (rise_joinA hm (rise_accs h1).1 fun x hx y hy e => ?_) fun x hx => ?_
    · obtain ⟨k, hki, hks⟩ := hk x hx
      have := (accs_mem h1 y hy).2.2
      rw [← e, hks] at this
      omega
    · rcases mem_joinA.1 hx with hx | hx
      · obtain ⟨k, hki, hks⟩ := hk x hx
        exact ⟨k, by omega, hks⟩
      · exact ⟨i, by omega, (accs_mem h1 x hx).2.2⟩

theorem joinF_slots : ∀ (L : List Shard) (m : List Acc), sSlots (L.foldl (fun acc s => sJoinA acc s.accounts) m) = sSlots m + (L.map fun s => sSlots s.accounts).sum
  | [], m => by simp
  | s :: L, m => by rw [List.foldl_cons, joinF_slots, slots_joinA, List.map_cons, List.sum_cons]; omega

theorem mem_join {x : Acc} {L : List Shard} : x ∈ sJoin L ↔ ∃ s ∈ L, x ∈ s.accounts := by unfold sJoin; rw [joinF_mem]; simp
theorem rise_join {per n : Int} {L : List Shard} (h : shsOk per n 0 L) : Rise (sJoin L) := joinF_rise h List.Pairwise.nil (by simp)
theorem slots_join (L : List Shard) : sSlots (sJoin L) = (L.map fun s => sSlots s.accounts).sum := by unfold sJoin; rw [joinF_slots]; simp [slots_nil]

theorem may_shs {x : Sight} (h : MayS x) : shsOk x.config.per x.config.shards 0 x.shards := shsOk_iff.2 fun j s hj => by
  have := h.sh j s hj
  simp only [sChkS, Bool.and_eq_true] at this
  simpa using this.2

theorem shd_one {a : Int} (h0 : 0 ≤ a) (h1 : a ≤ 255) : sShd a 1 = 0 := by
  unfold sShd
  rw [if_pos (by omega)]
  omega

theorem join_accs {per n : Int} {L : List Shard} (h : shsOk per n 0 L) : sAccs per 1 0 (-1) (sJoin L) = true := by
  refine accs_rise (rise_join h) fun a ha => ?_
  obtain ⟨s, hs, has⟩ := mem_join.1 ha
  obtain ⟨j, hj⟩ := List.getElem?_of_mem hs
  have hacc := shsOk_iff.1 h j s hj
  obtain ⟨h1, h2, h3⟩ := accs_mem hacc a has
  have hb := (sAcc_spec.1 h1).1
  exact ⟨by omega, h1, h2, shd_one hb.1 hb.2.1⟩

theorem join_get {per n : Int} {L : List Shard} (h : shsOk per n 0 L) {s : Int} {k : Nat} {sh : Shard} (hk : sShd s n = k) (hs : L[k]? = some sh) : sGetA (sJoin L) s = sGetA sh.accounts s := by
  have hacc := shsOk_iff.1 h k sh hs
  by_cases hx : ∃ a ∈ sh.accounts, a.sender = s
  · obtain ⟨a, ha, rfl⟩ := hx
    rw [getA_mem (rise_accs hacc).1 ha, getA_mem (rise_join h) (mem_join.2 ⟨sh, List.mem_of_getElem? hs, ha⟩)]
  · have hn : ∀ a ∈ sh.accounts, a.sender ≠ s := fun a ha e => hx ⟨a, ha, e⟩
    rw [getA_none hn, getA_none]
    intro a ha e
    obtain ⟨s', hs', has⟩ := mem_join.1 ha
    obtain ⟨j, hj⟩ := List.getElem?_of_mem hs'
    have h1 := (accs_mem (shsOk_iff.1 h j s' hj) a has).2.2
    rw [e, hk] at h1
    have : j = k := by omega
    subst this
    rw [hs] at hj
    injection hj with hj
    subst hj
    exact hn a has e

theorem join_set {per n : Int} {L : List Shard} (h : shsOk per n 0 L) {a : Acc} {k : Nat} {sh : Shard} (hk : sShd a.sender n = k) (hs : L[k]? = some sh) (ha : sAcc a per = true) : sJoin (L.set k (sSet sh a)) = sSetL (sJoin L) a := by
  have hlt := (List.getElem?_eq_some_iff.1 hs).1
  have hacc := shsOk_iff.1 h k sh hs
  have h2 : shsOk per n 0 (L.set k (sSet sh a)) := shsOk_iff.2 fun j s hj => by
    simp only [List.getElem?_set, hlt, if_true] at hj
    split at hj
    · rename_i e; subst e
      injection hj with hj; subst hj
      exact accs_set hacc ha (by simpa using hk) (by have := (sAcc_spec.1 ha).1; omega)
    · exact shsOk_iff.1 h j s hj
  refine rise_ext (rise_join h2) (rise_set (rise_join h)) fun x => ?_
  rw [mem_join, mem_set, mem_join]
  constructor
  · rintro ⟨s, hs', hx⟩
    obtain ⟨j, hj⟩ := List.getElem?_of_mem hs'
    simp only [List.getElem?_set, hlt, if_true] at hj
    split at hj
    · rename_i e; subst e
      injection hj with hj; subst hj
      rcases mem_set.1 hx with hx | ⟨hx, hne⟩
      · exact .inl hx
      · exact .inr ⟨⟨sh, List.mem_of_getElem? hs, hx⟩, hne⟩
    · rename_i hne
      refine .inr ⟨⟨s, List.mem_of_getElem? hj, hx⟩, fun e => ?_⟩
      have h1 := (accs_mem (shsOk_iff.1 h j s hj) x hx).2.2
      rw [e, hk] at h1
      omega
  · rintro (hx | ⟨⟨s, hs', hx⟩, hne⟩)
    · exact ⟨sSet sh a, List.mem_of_getElem? (i := k) (by rw [List.getElem?_set]; simp [hlt]), mem_set.2 (.inl hx)⟩
    · obtain ⟨j, hj⟩ := List.getElem?_of_mem hs'
      by_cases e : k = j
      · subst e
        rw [hs] at hj; injection hj with hj; subst hj
        exact ⟨sSet sh a, List.mem_of_getElem? (i := k) (by rw [List.getElem?_set]; simp [hlt]), mem_set.2 (.inr ⟨hx, hne⟩)⟩
      · exact ⟨s, List.mem_of_getElem? (i := j) (by rw [List.getElem?_set, if_neg e]; exact hj), hx⟩

def sPool (c : Config) (l : List Acc) : Bool := sCfg c && decide (sSlots l ≤ c.hard) && sAccs c.per 1 0 (-1) l

def sPlan (c : Config) (l : List Acc) (k s n : Int) (d : List UInt8) : Plan :=
  if (sWhose k s d).2 = true then sLook c (sGetA l (sWhose k s d).1) k n d else sLook c ⟨-1, 0, []⟩ k n d

def sDo (c : Config) (l : List Acc) (k s n : Int) (d : List UInt8) : List Acc × Result × List Event :=
  if (sPlan c l k s n d).changes = true then
    if c.hard - sSlots l < (sPlan c l k s n d).delta then (l, ⟨6, zTx, [], 0⟩, [])
    else (sSetL l (sPlan c l k s n d).after, (sPlan c l k s n d).result, (sPlan c l k s n d).events)
  else (l, (sPlan c l k s n d).result, [])

end Go.Vm

/- shard.Set, program = document's answer in plain form. -/
set_option linter.unusedVariables false
set_option linter.unusedSimpArgs false
namespace Go.Vm
open Go Go.RowKit

theorem p_Clone_Acc (l : List Acc) (hl : l.length ≤ 1000000) : F_kb0 l = some l := by
  simp only [F_kb0, pk_kb0]
  have h8 : l.length * 40 ≤ 140737488355328 := by omega
  cases l with
  | nil => simp [wboth]
  | cons x l => rw [if_neg (List.cons_ne_nil _ _), if_pos h8, if_neg (List.cons_ne_nil _ _)]

theorem drop_head {α : Type} {l k : List α} {t : α} {i : Nat} (h : l.drop i = t :: k) : l[i]? = some t ∧ l.drop (i + 1) = k ∧ i < l.length := by
  have ht : l[i]? = some t := by
    have := congrArg (·[0]?) h
    simpa using this
  refine ⟨ht, ?_, (List.getElem?_eq_some_iff.1 ht).1⟩
  have := congrArg List.tail h
  simpa using this

theorem ix1 (o0 : Shard) (a : Acc) (d : List Acc) (hd : d.length ≤ 1000000) : ∀ (m : List Acc) (i : Nat), d.drop i = m → i ≤ d.length →
    run (fun s : L_kb6_0 => if s.v8 < s.v7 then (if 0 ≤ s.v8 ∧ s.v8 < (s.s_.length : Int) then s.s_[s.v8.toNat]?.bind fun x =>
        if x.sender = s.o1.sender then some (Sum.inr (Sum.inr ({ v4 := s.v8, v7 := s.v7, v8 := s.v8, o0 := s.o0, o1 := s.o1, version := s.version, s_ := s.s_, o4 := s.o4 } : L_kb6_0)))
        else some (Sum.inl { v4 := s.v4, v7 := s.v7, v8 := IntKind.i64.wrap (s.v8 + 1), o0 := s.o0, o1 := s.o1, version := s.version, s_ := s.s_, o4 := s.o4 }) else none)
      else some (Sum.inr (Sum.inl ({ v4 := s.v4, v7 := s.v7, v8 := s.v8, o0 := s.o0, o1 := s.o1, version := s.version, s_ := s.s_, o4 := s.o4 } : L_kb6_0))))
      { v4 := 0, v7 := (d.length : Int), v8 := (i : Int), o0 := o0, o1 := a, version := 0, s_ := d, o4 := [] } =
    some (match m.findIdx? (fun x => decide (x.sender = a.sender)) with
      | none => Sum.inl { v4 := 0, v7 := (d.length : Int), v8 := (d.length : Int), o0 := o0, o1 := a, version := 0, s_ := d, o4 := [] }
      | some j => Sum.inr { v4 := ((i + j : Nat) : Int), v7 := (d.length : Int), v8 := ((i + j : Nat) : Int), o0 := o0, o1 := a, version := 0, s_ := d, o4 := [] })
  | [], i, hm, hi => by
    have h := List.drop_eq_nil_iff.1 hm
    obtain rfl : i = d.length := by omega
    rw [run_eq]
    simp
  | t :: m, i, hm, hi => by
    obtain ⟨ht, hm', hil⟩ := drop_head hm
    have h1 : (i : Int) < (d.length : Int) := by omega
    have h2 : (0 : Int) ≤ (i : Int) ∧ (i : Int) < (d.length : Int) := by omega
    have h3 : (i : Int).toNat = i := by omega
    have h4 : IntKind.i64.wrap ((i : Int) + 1) = ((i + 1 : Nat) : Int) := wrap_add1 i (by omega)
    rw [run_eq]
    simp only [h1, h2, h3, h4, ht, and_self, if_true, Option.bind_some]
    by_cases hp : t.sender = a.sender
    · simp only [hp, if_true, List.findIdx?_cons, decide_true, Nat.add_zero]
    · simp only [hp, if_false]
      rw [ix1 o0 a d hd m (i + 1) hm' (by omega)]
      simp only [List.findIdx?_cons, hp, decide_false, Bool.false_eq_true, if_false]
      cases m.findIdx? (fun x => decide (x.sender = a.sender)) with
      | none => rfl
      | some j => simp only [Option.map_some]; rw [show i + 1 + j = i + (j + 1) from by omega]

theorem ix2 (o0 : Shard) (a : Acc) (d : List Acc) (hd : d.length ≤ 1000000) : ∀ (m : List Acc) (i : Nat), d.drop i = m → i ≤ d.length →
    run (fun s : L_kb7_0 => if s.v8 < s.v7 then (if 0 ≤ s.v8 ∧ s.v8 < (s.s_.length : Int) then s.s_[s.v8.toNat]?.bind fun x =>
        if s.o1.sender < x.sender then some (Sum.inr (Sum.inr ({ v4 := s.v8, v7 := s.v7, v8 := s.v8, o0 := s.o0, o1 := s.o1, version := s.version, o4 := s.o4, s_ := s.s_ } : L_kb7_0)))
        else some (Sum.inl { v4 := s.v4, v7 := s.v7, v8 := IntKind.i64.wrap (s.v8 + 1), o0 := s.o0, o1 := s.o1, version := s.version, o4 := s.o4, s_ := s.s_ }) else none)
      else some (Sum.inr (Sum.inl ({ v4 := s.v4, v7 := s.v7, v8 := s.v8, o0 := s.o0, o1 := s.o1, version := s.version, o4 := s.o4, s_ := s.s_ } : L_kb7_0))))
      { v4 := 0, v7 := (d.length : Int), v8 := (i : Int), o0 := o0, o1 := a, version := 0, o4 := [], s_ := d } =
    some (match m.findIdx? (fun x => decide (a.sender < x.sender)) with
      | none => Sum.inl { v4 := 0, v7 := (d.length : Int), v8 := (d.length : Int), o0 := o0, o1 := a, version := 0, o4 := [], s_ := d }
      | some j => Sum.inr { v4 := ((i + j : Nat) : Int), v7 := (d.length : Int), v8 := ((i + j : Nat) : Int), o0 := o0, o1 := a, version := 0, o4 := [], s_ := d })
  | [], i, hm, hi => by
    have h := List.drop_eq_nil_iff.1 hm
    obtain rfl : i = d.length := by omega
    rw [run_eq]
    simp
  | t :: m, i, hm, hi => by
    obtain ⟨ht, hm', hil⟩ := drop_head hm
    have h1 : (i : Int) < (d.length : Int) := by omega
    have h2 : (0 : Int) ≤ (i : Int) ∧ (i : Int) < (d.length : Int) := by omega
    have h3 : (i : Int).toNat = i := by omega
    have h4 : IntKind.i64.wrap ((i : Int) + 1) = ((i + 1 : Nat) : Int) := wrap_add1 i (by omega)
    rw [run_eq]
    simp only [h1, h2, h3, h4, ht, and_self, if_true, Option.bind_some]
    by_cases hp : a.sender < t.sender
    · simp only [hp, if_true, List.findIdx?_cons, decide_true, Nat.add_zero]
    · simp only [hp, if_false]
      rw [ix2 o0 a d hd m (i + 1) hm' (by omega)]
      simp only [List.findIdx?_cons, hp, decide_false, Bool.false_eq_true, if_false]
      cases m.findIdx? (fun x => decide (a.sender < x.sender)) with
      | none => rfl
      | some j => simp only [Option.map_some]; rw [show i + 1 + j = i + (j + 1) from by omega]

theorem ins_at (a : Acc) : ∀ (d : List Acc), (d.findIdx? (fun x => decide (a.sender < x.sender)) = none → sInsA a d = d ++ [a]) ∧ (∀ i, d.findIdx? (fun x => decide (a.sender < x.sender)) = some i → i < d.length ∧ sInsA a d = d.take i ++ a :: d.drop i)
  | [] => ⟨fun _ => rfl, fun i h => by simp at h⟩
  | x :: d => by
    obtain ⟨h1, h2⟩ := ins_at a d
    rw [List.findIdx?_cons]
    by_cases hp : a.sender < x.sender
    · refine ⟨fun h => by simp [hp] at h, fun i h => ?_⟩
      simp [hp] at h
      subst h
      simp [sInsA, hp]
    · refine ⟨fun h => ?_, fun i h => ?_⟩
      · simp [hp] at h
        simp only [sInsA, hp, if_false, List.cons_append]
        rw [h1 (by simpa using h)]
      · simp only [hp, decide_false, Bool.false_eq_true, if_false, Option.map_eq_some_iff] at h
        obtain ⟨j, hj, rfl⟩ := h
        obtain ⟨g1, g2⟩ := h2 j hj
        refine ⟨by simp; omega, ?_⟩
        simp only [sInsA, hp, if_false, List.take_succ_cons, List.drop_succ_cons, List.cons_append]
        rw [g2]

theorem del_acc (o0 : Shard) (o1 : Acc) (len : Nat) (hlen : len ≤ 1000000) : ∀ (m : List Acc) (j i : Nat) (s : List Acc), s.length = len → s.drop j = m → i < j → j ≤ len →
    ∃ i' s', i' ≤ len ∧ s'.length = len ∧ s'.take i' = s.take i ++ sDelA m o1.sender ∧
      run (fun s : L_kb4_0 => if s.j < (s.s_.length : Int) then (if 0 ≤ s.j ∧ s.j < (s.s_.length : Int) then s.s_[s.j.toNat]?.bind fun a =>
          if a.sender = s.o1.sender then some (Sum.inl { i := s.i, j := IntKind.i64.wrap (s.j + 1), o0 := s.o0, o1 := s.o1, version := s.version, s_ := s.s_, v4 := s.v4 })
          else if 0 ≤ s.i ∧ s.i < (s.s_.length : Int) then s.s_[s.i.toNat]?.bind fun a_2 =>
            if s.i.toNat < s.s_.length then some (Sum.inl { i := IntKind.i64.wrap (s.i + 1), j := IntKind.i64.wrap (s.j + 1), o0 := s.o0, o1 := s.o1, version := s.version, s_ := s.s_.set s.i.toNat a, v4 := s.v4 })
            else some (Sum.inl { i := IntKind.i64.wrap (s.i + 1), j := IntKind.i64.wrap (s.j + 1), o0 := s.o0, o1 := s.o1, version := s.version, s_ := s.s_, v4 := s.v4 })
          else none
        else none) else some (Sum.inr (Sum.inl { i := s.i, j := s.j, o0 := s.o0, o1 := s.o1, version := s.version, s_ := s.s_, v4 := s.v4 } : L_kb4_0 ⊕ L_kb4_0)))
        { i := (i : Int), j := (j : Int), o0 := o0, o1 := o1, version := 0, s_ := s, v4 := [] } = some (.inl { i := (i' : Int), j := (len : Int), o0 := o0, o1 := o1, version := 0, s_ := s', v4 := [] })
  | [], j, i, s, hs, hd, hij, hj => by
    have h := List.drop_eq_nil_iff.1 hd
    obtain rfl : j = len := by omega
    refine ⟨i, s, by omega, hs, by simp [sDelA], ?_⟩
    rw [run_eq]
    have h1 : ¬ ((j : Int) < (s.length : Int)) := by omega
    simp only [h1, if_false]
  | t :: m, j, i, s, hs, hd, hij, hj => by
    obtain ⟨ht, hd', hjl⟩ := drop_head hd
    have h1 : (j : Int) < (s.length : Int) := by omega
    have h2 : (0 : Int) ≤ (j : Int) ∧ (j : Int) < (s.length : Int) := by omega
    have h3 : (j : Int).toNat = j := by omega
    have h4 : IntKind.i64.wrap ((j : Int) + 1) = ((j + 1 : Nat) : Int) := wrap_add1 j (by omega)
    by_cases hn : t.sender = o1.sender
    · obtain ⟨i', s', g1, g2, g3, g4⟩ := del_acc o0 o1 len hlen m (j + 1) i s hs hd' (by omega) (by omega)
      refine ⟨i', s', g1, g2, by rw [g3]; simp [sDelA, hn], ?_⟩
      rw [run_eq]
      simp only [h1, h2, h3, h4, ht, hn, and_self, if_true, Option.bind_some]
      exact g4
    · have hil : i < s.length := by omega
      obtain ⟨i', s', g1, g2, g3, g4⟩ := del_acc o0 o1 len hlen m (j + 1) (i + 1) (s.set i t) (by simpa using hs) (by rw [List.drop_set_of_lt (by omega)]; exact hd') (by omega) (by omega)
      refine ⟨i', s', g1, g2, ?_, ?_⟩
      · rw [g3]
        have : (s.set i t).take (i + 1) = s.take i ++ [t] := by
          rw [List.take_add_one, List.getElem?_set_self hil, List.take_set_of_le (by omega)]
          rfl
        rw [this]
        simp [sDelA, hn]
      · rw [run_eq]
        have h5 : (0 : Int) ≤ (i : Int) ∧ (i : Int) < (s.length : Int) := by omega
        have h6 : (i : Int).toNat = i := by omega
        have h7 : IntKind.i64.wrap ((i : Int) + 1) = ((i + 1 : Nat) : Int) := wrap_add1 i (by omega)
        simp only [h1, h2, h3, h4, ht, hn, and_self, if_true, if_false, Option.bind_some, h5, h6, h7, hil, List.getElem?_eq_getElem hil]
        exact g4

def sVer (v : Int) : Int := if v < 0 ∨ 1099511627776 ≤ v then 0 else v + 1
theorem ver_ite {v : Int} {α : Type} (f : Int → Option α) : (if v < 0 then f 0 else if 1099511627776 ≤ v then f 0 else f (IntKind.i64.wrap (v + 1))) = f (sVer v) := by
  unfold sVer
  by_cases h1 : v < 0
  · rw [if_pos h1, if_pos (.inl h1)]
  · rw [if_neg h1]
    by_cases h2 : 1099511627776 ≤ v
    · rw [if_pos h2, if_pos (.inr h2)]
    · rw [if_neg h2, if_neg (by omega), wrap64 (by omega) (by omega)]

theorem obind {α β : Type} {x : Option α} {r : α} {g : α → Option β} {G : Option β} (h : x = some r) (hg : g r = G) : x.bind g = G := by rw [h]; exact hg

theorem find_none {α : Type} {p : α → Bool} {l : List α} (h : l.findIdx? p = none) : l.filter (fun x => !p x) = l := by
  rw [List.findIdx?_eq_none_iff] at h
  exact List.filter_eq_self.2 fun x hx => by simp [h x hx]

theorem p_shard_Set (s : Shard) (a : Acc) (hl : s.accounts.length ≤ 1000000) : F_kaa s a = some (sSet s a) := by
  simp only [F_kaa, pk_kaa, p_Clone_Acc _ hl, Option.bind_some]
  have hx := ix1 s a s.accounts hl s.accounts 0 rfl (by omega)
  cases hf : s.accounts.findIdx? (fun x => decide (x.sender = a.sender)) with
  | none =>
    rw [hf] at hx
    refine obind hx ?_
    have hdl : sDelA s.accounts a.sender = s.accounts := find_none hf
    simp only [selim, Option.bind_some, if_true, p_shard_empty]
    cases he : emp a with
    | true =>
      rw [show decide (a.base = 0 ∧ a.txs = []) = true from he]
      simp only [Bool.true_eq_false, if_false]
      refine (ver_ite (fun v => some (⟨s.accounts, v⟩ : Shard))).trans ?_
      simp only [sSet, sSetL, he, if_true, hdl]; rfl
    | false =>
      rw [show decide (a.base = 0 ∧ a.txs = []) = false from he]
      simp only [if_true]
      have hy := ix2 s a s.accounts hl s.accounts 0 rfl (by omega)
      obtain ⟨i1, i2⟩ := ins_at a s.accounts
      have hr : (s.accounts.length + 1) * 40 ≤ 140737488355328 := by omega
      cases hg : s.accounts.findIdx? (fun x => decide (a.sender < x.sender)) with
      | none =>
        rw [hg] at hy
        refine obind hy ?_
        have hm : min s.accounts.length s.accounts.length + (s.accounts.length - s.accounts.length + 1) = s.accounts.length + 1 := by omega
        simp only [selim, Option.bind_some, true_and, hr, if_true, hm]
        refine (ver_ite (fun v => some (⟨s.accounts.take s.accounts.length ++ a :: s.accounts.drop s.accounts.length, v⟩ : Shard))).trans ?_
        simp only [sSet, sSetL, he, Bool.false_eq_true, if_false, hdl, i1 hg, List.take_length, List.drop_length]; rfl
      | some i =>
        obtain ⟨g1, g2⟩ := i2 i hg
        rw [hg] at hy
        refine obind hy ?_
        have hz : ¬ ((0 + i : Nat) : Int) < 0 := by omega
        have hc : (0 : Int) ≤ ((0 + i : Nat) : Int) ∧ ((0 + i : Nat) : Int) ≤ (s.accounts.length : Int) := by omega
        have hn : (((0 + i : Nat) : Int)).toNat = i := by omega
        have hm : min i s.accounts.length + (s.accounts.length - i + 1) = s.accounts.length + 1 := by omega
        simp only [selim, Option.bind_some, true_and, hr, hz, hc, and_self, hn, if_true, if_false, hm]
        refine (ver_ite (fun v => some (⟨s.accounts.take i ++ a :: s.accounts.drop i, v⟩ : Shard))).trans ?_
        simp only [sSet, sSetL, he, Bool.false_eq_true, if_false, hdl, g2]; rfl
  | some i =>
    rw [hf] at hx
    refine obind hx ?_
    obtain ⟨hi, hp, hb⟩ := List.findIdx?_eq_some_iff_getElem.1 hf
    have h1 : ¬ (((0 + i : Nat) : Int) = -1) := by omega
    have h2 : IntKind.i64.wrap (((0 + i : Nat) : Int) + 1) = ((i + 1 : Nat) : Int) := by
      rw [Nat.zero_add]; exact wrap_add1 i (by omega)
    have h3 : ((0 + i : Nat) : Int) = (i : Int) := by omega
    obtain ⟨i', s', g1, g2, g3, g4⟩ := del_acc s a s.accounts.length hl (s.accounts.drop (i + 1)) (i + 1) i s.accounts rfl rfl (by omega) (by omega)
    simp only [selim, Option.bind_some, h1, if_false, List.length_nil, h2, and_self, if_true]
    rw [h3]
    refine obind g4 ?_
    have hdl : sDelA s.accounts a.sender = s'.take i' := by
      rw [g3]
      have hsplit : s.accounts = s.accounts.take i ++ s.accounts[i] :: s.accounts.drop (i + 1) := by
        conv => lhs; rw [← List.take_append_drop i s.accounts]
        congr 1
        exact List.drop_eq_getElem_cons hi
      conv => lhs; rw [hsplit]
      unfold sDelA
      rw [List.filter_append, List.filter_cons_of_neg (by simpa using hp)]
      congr 1
      refine List.filter_eq_self.2 fun x hx => ?_
      obtain ⟨j, hj, rfl⟩ := List.getElem_of_mem hx
      have hji : j < i := by simp at hj; omega
      have := hb j hji
      simp only [List.getElem_take]
      simpa using this
    have c1 : (0 : Int) ≤ (i' : Int) ∧ (i' : Int) ≤ (s'.length : Int) := by omega
    have c2 : (i' : Int) ≤ (s'.length : Int) := by omega
    have c3 : (i' : Int).toNat = i' := by omega
    have c4 : min i' s'.length + (s'.length - i') = s'.length := by omega
    have c5 : i' ≤ ((s'.map Acc.c).take i').length := by simp; omega
    have c6 : max (i' : Int) 0 = (i' : Int) := by omega
    have hlen : (s'.take i').length = i' := by simp; omega
    have c7 : min i' s'.length = i' := by omega
    have c8 : i' + (s'.length - i') = s'.length := by omega
    have dl : ∀ r : List (List DV), decL dAcc (List.take i' (List.take i' (List.map Acc.c s') ++ r)) = some (s'.take i') := by
      intro r
      rw [List.take_append_of_le_length c5, List.take_take, Nat.min_self, Acc.dtake]
    simp only [selim, Option.bind_some, c1, c2, c3, c7, c8, c6, and_self, if_true, p_shard_empty, dl]
    cases he : emp a with
    | true =>
      rw [show decide (a.base = 0 ∧ a.txs = []) = true from he]
      simp only [Bool.true_eq_false, if_false]
      refine (ver_ite (fun v => some (⟨s'.take i', v⟩ : Shard))).trans ?_
      simp only [sSet, sSetL, he, if_true, hdl]; rfl
    | false =>
      rw [show decide (a.base = 0 ∧ a.txs = []) = false from he]
      simp only [if_true, hlen]
      generalize hD : s'.take i' = D at *
      have hDl : D.length ≤ 1000000 := by omega
      rw [← hlen]
      have hy := ix2 s a D hDl D 0 rfl (by omega)
      obtain ⟨i1, i2⟩ := ins_at a D
      have hr : (D.length + 1) * 40 ≤ 140737488355328 := by omega
      have hz0 : (0 : Int) ≤ (D.length : Int) := by omega
      have hzn : ((D.length : Nat) : Int).toNat = D.length := by omega
      cases hg : D.findIdx? (fun x => decide (a.sender < x.sender)) with
      | none =>
        rw [hg] at hy
        refine obind hy ?_
        have hm : min D.length D.length + (D.length - D.length + 1) = D.length + 1 := by omega
        simp only [selim, Option.bind_some, true_and, hr, hz0, hzn, and_self, if_true, hm]
        refine (ver_ite (fun v => some (⟨D.take D.length ++ a :: D.drop D.length, v⟩ : Shard))).trans ?_
        simp only [sSet, sSetL, he, Bool.false_eq_true, if_false, hdl, i1 hg, List.take_length, List.drop_length]; rfl
      | some i =>
        obtain ⟨g1, g2⟩ := i2 i hg
        rw [hg] at hy
        refine obind hy ?_
        have hz : ¬ ((0 + i : Nat) : Int) < 0 := by omega
        have hc : (0 : Int) ≤ ((0 + i : Nat) : Int) ∧ ((0 + i : Nat) : Int) ≤ (D.length : Int) := by omega
        have hn : (((0 + i : Nat) : Int)).toNat = i := by omega
        have hm : min i D.length + (D.length - i + 1) = D.length + 1 := by omega
        simp only [selim, Option.bind_some, true_and, hr, hz, hc, and_self, hn, if_true, if_false, hm]
        refine (ver_ite (fun v => some (⟨D.take i ++ a :: D.drop i, v⟩ : Shard))).trans ?_
        simp only [sSet, sSetL, he, Bool.false_eq_true, if_false, hdl, g2]; rfl

end Go.Vm

/- Layer 16, program and document: what may be, who may go on, a step. -/
set_option linter.unusedVariables false
set_option linter.unusedSimpArgs false
namespace Go.Vm
open Go Go.RowKit

theorem all_run {α σ : Type} {step : σ → Option (σ ⊕ (σ ⊕ Bool))} {s0 : σ} {f : σ → Option Bool} {q : Bool} (L : List α) (st : Nat → σ) (p : Nat → α → Bool) (h0 : s0 = st 0)
    (hs : ∀ i a, L[i]? = some a → step (st i) = some (if p i a = true then .inl (st (i + 1)) else .inr (.inr false)))
    (he : step (st L.length) = some (.inr (.inl (st L.length)))) (hf : f (st L.length) = some q) :
    (run step s0).bind (selim f fun n => some n) = some (allI p 0 L && q) := by
  refine run_bind (γ := Unit) L (fun i _ => st i) (fun i _ a => some (if p i a = true then .inl () else .inr (.inr false))) (fun _ => some (.inl (st L.length))) () h0 ?_ ?_ ?_
  · intro i c a ha
    rw [hs i a ha]
    by_cases h : p i a = true <;> simp [h]
  · intro c; rw [he]; rfl
  · have key : ∀ (k : List α) (i : Nat), (loopL (γ := Unit) (fun i _ a => some (if p i a = true then .inl () else .inr (.inr false))) (fun _ => some (.inl (st L.length))) i () k).bind (selim f fun n => some n) = some (allI p i k && q) := by
      intro k
      induction k with
      | nil => intro i; simp [loopL, selim, allI, hf]
      | cons a k ih =>
        intro i
        unfold loopL
        by_cases h : p i a = true
        · simp only [h, if_true, allI, Bool.true_and]; exact ih (i + 1)
        · simp [h, allI, selim]
    exact key L 0

def ShS (s : Shard) : Prop := s.accounts.length ≤ 1048576 ∧ ∀ a ∈ s.accounts, a.txs.length ≤ 1048576
def ShX (x : Sight) : Prop := x.locks.length ≤ 1048576 ∧ x.shards.length ≤ 1048576 ∧ ∀ s ∈ x.shards, ShS s
theorem sh_of {α : Type} {l : List α} (h : l.length ≤ 1048576) : Short l := by simp only [Short]; omega

theorem may_sh {x : Sight} (h : MayS x) : ShX x := by
  have hc := sCfg_spec.1 h.cfg
  have h1 := h.llen; have h2 := h.slen
  refine ⟨by omega, by omega, fun s hs => ?_⟩
  obtain ⟨i, hi⟩ := List.getElem?_of_mem hs
  have hk := h.sh i s hi
  simp only [sChkS, Bool.and_eq_true] at hk
  have := accs_len hk.2 (by omega)
  refine ⟨by omega, fun a ha => ?_⟩
  have := (sAcc_spec.1 (accs_mem hk.2 a ha).1).1
  omega

theorem accs_loop (c : Config) (k : Int) (o0 : Shard) (L : List Acc) : ∀ (l : List Acc) (i : Nat) (last : Int),
    (loopL (β := L_ka7_0 ⊕ Bool) (fun _ (last : Int) (a : Acc) => some (if (sAcc a c.per && !emp a && decide (last < a.sender) && decide (sShd a.sender c.shards = k)) = true then .inl a.sender else .inr (.inr false))) (fun last => some (.inl ⟨k, last, L, L.length, L.length, o0, c⟩)) i last l).bind (selim (fun s => some true) fun n => some n) = some (sAccs c.per c.shards k last l)
  | [], i, last => rfl
  | a :: l, i, last => by
    unfold loopL
    by_cases h : (sAcc a c.per && !emp a && decide (last < a.sender) && decide (sShd a.sender c.shards = k)) = true
    · simp only [h, if_true, sAccs, Bool.true_and]; exact accs_loop c k o0 L l (i + 1) a.sender
    · simp [h, sAccs, selim]

theorem p_shard_Check (s : Shard) (k : Int) (c : Config) (h : ShS s) : F_ka7 s k c = some (sChkS c k s) := by
  simp only [F_ka7, pk_ka7]
  by_cases h1 : s.version < 0
  · rw [if_pos h1]; unfold sChkS; rw [decide_eq_false (by omega)]; rfl
  by_cases h2 : 1099511627776 < s.version
  · rw [if_neg h1, if_pos h2]; unfold sChkS; rw [decide_eq_false (by omega)]; rfl
  rw [if_neg h1, if_neg h2]
  unfold sChkS
  rw [decide_eq_true (by omega), Bool.true_and]
  refine run_bind (γ := Int) s.accounts (fun i last => ⟨k, last, s.accounts, s.accounts.length, i, s, c⟩) (fun _ last a => some (if (sAcc a c.per && !emp a && decide (last < a.sender) && decide (sShd a.sender c.shards = k)) = true then .inl a.sender else .inr (.inr false))) (fun last => some (.inl ⟨k, last, s.accounts, s.accounts.length, s.accounts.length, s, c⟩)) (-1) rfl ?_ ?_ ?_
  · intro i last a ha
    obtain ⟨h1, h2, h3, h4⟩ := at_ ha (sh_of h.1)
    have hm := List.mem_of_getElem? ha
    simp only [h1, h2, h3, h4, ha, if_true, Option.bind_some, p_queue_Check a c.per (sh_of (h.2 a hm)), p_shard_empty, p_fnv_Shard]
    rw [show decide (a.base = 0 ∧ a.txs = []) = emp a from rfl]
    by_cases g1 : sAcc a c.per = true
    · by_cases g2 : emp a = true
      · simp [g1, g2]
      · by_cases g3 : last < a.sender
        · by_cases g4 : sShd a.sender c.shards = k
          · have g5 : ¬ a.sender ≤ last := by omega
            simp [g1, g2, g3, g4, g5]
          · have g5 : ¬ a.sender ≤ last := by omega
            simp [g1, g2, g3, g4, g5]
        · have g5 : a.sender ≤ last := by omega
          simp [g1, g2, g3, g5]
    · simp [g1]
  · intro last; simp
  · exact accs_loop c k s s.accounts s.accounts 0 (-1)

theorem racc_loop (c : Config) (k : Int) (s : Shard) : ∀ (l : List Acc) (i : Nat), s.accounts.drop i = l → ∀ last, (i = 0 → last = -1) → (0 < i → ∃ p, s.accounts[i - 1]? = some p ∧ last = p.sender) → -1 ≤ last →
    (loopL (γ := Unit) (β := L_k7a_0 ⊕ Bool) (fun i _ (a : Acc) => if (sAcc a c.per && !emp a && decide (sShd a.sender c.shards = k)) = true then (if 0 < i then (match s.accounts[i - 1]? with | some p => if a.sender ≤ p.sender then some (.inr (.inr false)) else some (.inl ()) | none => none) else some (.inl ())) else some (.inr (.inr false))) (fun _ => some (.inl ⟨k, s.accounts.length, s, c⟩)) i () l).bind (selim (fun s => some true) fun n => some n) = some (sAccs c.per c.shards k last l)
  | [], i, hd, last, h0, h1, hl => rfl
  | a :: l, i, hd, last, h0, h1, hl => by
    obtain ⟨ht, hd', hil⟩ := drop_head hd
    unfold loopL
    by_cases h : (sAcc a c.per && !emp a && decide (sShd a.sender c.shards = k)) = true
    · have hs := h
      simp only [Bool.and_eq_true, decide_eq_true_eq] at hs
      have hb := (sAcc_spec.1 hs.1.1).1
      have ih := racc_loop c k s l (i + 1) hd' a.sender (fun h => by omega) (fun _ => ⟨a, by simpa using ht, rfl⟩) (by omega)
      have hcond : ∀ b : Bool, (sAcc a c.per && !emp a && b && decide (sShd a.sender c.shards = k)) = b := by
        intro b; simp [hs.1.1, hs.1.2, hs.2]
      simp only [h, if_true, sAccs, hcond]
      by_cases hi0 : i = 0
      · have e := h0 hi0
        have g : last < a.sender := by omega
        simp only [show ¬ 0 < i from by omega, if_false, g, decide_true, Bool.true_and]
        exact ih
      · obtain ⟨p, hp, he⟩ := h1 (by omega)
        simp only [show 0 < i from by omega, if_true, hp]
        by_cases g : a.sender ≤ p.sender
        · have g2 : ¬ last < a.sender := by omega
          simp [g, g2, selim]
        · have g2 : last < a.sender := by omega
          simp only [g, if_false, g2, decide_true, Bool.true_and]
          exact ih
    · have hf : (sAcc a c.per && !emp a && decide (last < a.sender) && decide (sShd a.sender c.shards = k)) = false := by
        simp only [Bool.and_eq_true, not_and] at h
        cases h1 : sAcc a c.per <;> cases h2 : emp a <;> simp_all
      simp [h, sAccs, hf, selim]

theorem p_r11_Check (s : Shard) (k : Int) (c : Config) (h : ShS s) : F_k7a s k c = some (sChkS c k s) := by
  simp only [F_k7a, pk_k7a]
  by_cases h1 : s.version < 0
  · rw [if_pos h1]; unfold sChkS; rw [decide_eq_false (by omega)]; rfl
  by_cases h2 : 1099511627776 < s.version
  · rw [if_neg h1, if_pos h2]; unfold sChkS; rw [decide_eq_false (by omega)]; rfl
  rw [if_neg h1, if_neg h2]
  unfold sChkS
  rw [decide_eq_true (by omega), Bool.true_and]
  refine run_bind (γ := Unit) s.accounts (fun i _ => ⟨k, i, s, c⟩) (fun i _ (a : Acc) => if (sAcc a c.per && !emp a && decide (sShd a.sender c.shards = k)) = true then (if 0 < i then (match s.accounts[i - 1]? with | some p => if a.sender ≤ p.sender then some (.inr (.inr false)) else some (.inl ()) | none => none) else some (.inl ())) else some (.inr (.inr false))) (fun _ => some (.inl ⟨k, s.accounts.length, s, c⟩)) () rfl ?_ ?_ ?_
  · intro i _ a ha
    obtain ⟨h1, h2, h3, h4⟩ := at_ ha (sh_of h.1)
    have hm := List.mem_of_getElem? ha
    have hil := (List.getElem?_eq_some_iff.1 ha).1
    simp only [h1, h2, h3, h4, ha, if_true, Option.bind_some, p_r05_Check a c.per (sh_of (h.2 a hm)), p_r11_empty, p_r02_Shard]
    rw [show decide (a.base = 0 ∧ a.txs = []) = emp a from rfl]
    by_cases g1 : sAcc a c.per = true
    · by_cases g2 : emp a = true
      · simp [g1, g2]
      · by_cases g4 : sShd a.sender c.shards = k
        · by_cases hi0 : i = 0
          · subst hi0
            simp [g1, g2, g4]
          · have e1 : IntKind.i64.wrap ((i : Int) - 1) = ((i - 1 : Nat) : Int) := by
              have := h.1
              rw [wrap64 (by omega) (by omega)]; omega
            have e2 : (0 : Int) < (i : Int) := by omega
            have e3 : 0 < i := by omega
            have e4 : i - 1 < s.accounts.length := by omega
            have e5 : s.accounts[i - 1]? = some s.accounts[i - 1] := List.getElem?_eq_getElem e4
            have e6 : (0 : Int) ≤ ((i - 1 : Nat) : Int) := by omega
            have e7 : ((i - 1 : Nat) : Int).toNat = i - 1 := by omega
            simp only [g1, g2, g4, e1, e2, e3, e5, e6, e7, Bool.true_eq_false, if_false, if_true, Option.bind_some, Bool.not_true, Bool.not_false, Bool.and_true, Bool.true_and, decide_true]
            by_cases g : a.sender ≤ s.accounts[i - 1].sender <;> simp [g, g2]
        · simp [g1, g2, g4]
    · simp [g1]
  · intro _; simp
  · exact racc_loop c k s s.accounts 0 rfl (-1) (fun _ => rfl) (fun h => by omega) (by omega)

theorem p_task_May (x : Sight) (h : ShX x) : F_kc0 x = some (sMay x) := by
  simp only [F_kc0, pk_kc0, p_pool_Config, Option.bind_some, sMay]
  cases hc : sCfg x.config with
  | false => simp
  | true =>
  by_cases h1 : (x.locks.length : Int) = x.config.shards
  case neg => simp [h1]
  by_cases h2 : (x.shards.length : Int) = x.config.shards
  case neg => simp [h2]
  by_cases h3 : x.pot.most = x.config.hard
  case neg => simp [h3]
  by_cases h4 : x.pot.taken < 0
  case pos => simp [h4, Int.not_le.2 h4]
  by_cases h5 : x.config.hard < x.pot.taken
  case pos => simp [h5, Int.not_le.2 h5]
  rw [if_neg (by simp), if_pos h1, if_pos h2, if_pos h3, if_neg h4, if_neg h5, decide_eq_true ⟨h1, h2, h3, by omega, by omega⟩]
  rw [Bool.true_and, Bool.true_and]
  refine Eq.trans (b := some (allI (fun i s => decide (0 ≤ (x.locks[i]?).getD 0) && sChkS x.config i s) 0 x.shards && true)) ?_ (by rw [Bool.and_true])
  refine all_run (q := true) x.shards (fun i => (⟨x.shards, x.shards.length, i, x, x.config⟩ : L_kc0_0)) (fun i s => decide (0 ≤ (x.locks[i]?).getD 0) && sChkS x.config i s) rfl ?_ ?_ rfl
  · intro i s hi
    obtain ⟨g1, g2, g3, g4⟩ := at_ hi (sh_of h.2.1)
    have hil := (List.getElem?_eq_some_iff.1 hi).1
    have hl : i < x.locks.length := by omega
    have hm := List.mem_of_getElem? hi
    simp only [g1, g2, g3, g4, hi, List.getElem?_eq_getElem hl, if_true, Option.bind_some, p_shard_Check s i x.config (h.2.2 s hm), Option.getD_some]
    by_cases e1 : x.locks[i] < 0
    · simp [e1, Int.not_le.2 e1]; try rfl
    · have e2 : 0 ≤ x.locks[i] := by omega
      cases e3 : sChkS x.config i s <;> (simp [e1, e2, e3]; try rfl)
  · simp; try rfl

theorem p_r16_May (x : Sight) (h : ShX x) : F_ka0 x = some (sMay x) := by
  simp only [F_ka0, pk_ka0, p_r13_Config, Option.bind_some, sMay]
  cases hc : sCfg x.config with
  | false => simp
  | true =>
  by_cases h1 : (x.locks.length : Int) = x.config.shards
  case neg => simp [h1]
  by_cases h2 : (x.shards.length : Int) = x.config.shards
  case neg => simp [h2]
  by_cases h3 : x.pot.most = x.config.hard
  case neg => simp [h3]
  by_cases h4 : x.pot.taken < 0
  case pos => simp [h4, Int.not_le.2 h4]
  by_cases h5 : x.config.hard < x.pot.taken
  case pos => simp [h5, Int.not_le.2 h5]
  rw [if_neg (by simp), if_pos h1, if_pos h2, if_pos h3, if_neg h4, if_neg h5, decide_eq_true ⟨h1, h2, h3, by omega, by omega⟩]
  rw [Bool.true_and, Bool.true_and]
  refine Eq.trans (b := some (allI (fun i s => decide (0 ≤ (x.locks[i]?).getD 0) && sChkS x.config i s) 0 x.shards && true)) ?_ (by rw [Bool.and_true])
  refine all_run (q := true) x.shards (fun i => (⟨i, x, x.config⟩ : L_ka0_0)) (fun i s => decide (0 ≤ (x.locks[i]?).getD 0) && sChkS x.config i s) rfl ?_ ?_ rfl
  · intro i s hi
    obtain ⟨g1, g2, g3, g4⟩ := at_ hi (sh_of h.2.1)
    rw [h2] at g1
    have hil := (List.getElem?_eq_some_iff.1 hi).1
    have hl : i < x.locks.length := by omega
    have hm := List.mem_of_getElem? hi
    simp only [g1, g2, g3, g4, hi, List.getElem?_eq_getElem hl, if_true, Option.bind_some, p_r11_Check s i x.config (h.2.2 s hm), Option.getD_some]
    by_cases e1 : x.locks[i] < 0
    · simp [e1, Int.not_le.2 e1]; try rfl
    · have e2 : 0 ≤ x.locks[i] := by omega
      cases e3 : sChkS x.config i s <;> (simp [e1, e2, e3]; try rfl)
  · simp [h2]; try rfl

theorem p_task_shard (t : Task) (x : Sight) : F_kca t x = some (sK t x) := by
  simp only [F_kca, pk_kca, p_fnv_Shard]; rfl

theorem p_task_Able (t : Task) (who : Int) (x : Sight) (h : ShX x) : F_kbf t who x = some (sAble t who x) := by
  simp only [F_kbf, pk_kbf, p_task_May x h, p_task_shard, Option.bind_some, sAble, p_lock_Free]
  by_cases h1 : who < 1
  · rw [if_pos h1, if_pos (.inl h1)]
  by_cases h2 : t.phase < 0
  · rw [if_neg h1, if_pos h2, if_pos (.inr (.inl h2))]
  by_cases h3 : 5 < t.phase
  · rw [if_neg h1, if_neg h2, if_pos h3, if_pos (.inr (.inr (.inl h3)))]
  rw [if_neg h1, if_neg h2, if_neg h3]
  cases hm : sMay x with
  | false => rw [if_pos rfl, if_pos (.inr (.inr (.inr rfl)))]
  | true =>
    have e : ¬ (who < 1 ∨ t.phase < 0 ∨ 5 < t.phase ∨ true = false) := by simp; omega
    rw [if_neg (by simp), if_neg e]
    by_cases h4 : t.phase = 0
    · rw [if_pos h4, if_pos h4]
    by_cases h5 : t.phase = 1
    · rw [if_neg h4, if_pos h5, if_neg h4, if_pos h5]
    rw [if_neg h4, if_neg h5, if_neg h4, if_neg h5]
    have hM := may_spec.1 hm
    have hr := (shd_range t.sender x.config.shards).2 (by have := (sCfg_spec.1 hM.cfg).1; omega)
    by_cases h6 : 0 ≤ sK t x
    · have hl : (sK t x).toNat < x.locks.length := by
        have := hM.llen
        have hr' : sK t x < x.config.shards := hr
        omega
      rw [if_pos h6, if_pos h6, List.getElem?_eq_getElem hl]
      simp [h6]
    · rw [if_neg h6]; simp [h6]

end Go.Vm

/- Layer 16, the program: a step of a task comes to what the plain step says. -/
set_option linter.unusedVariables false
set_option linter.unusedSimpArgs false
namespace Go.Vm
open Go Go.RowKit

theorem p_Clone_Shard (l : List Shard) (hl : l.length ≤ 1000000) : F_kb1 l = some l := by
  simp only [F_kb1, pk_kb1]
  have h8 : l.length * 32 ≤ 140737488355328 := by omega
  cases l with
  | nil => simp [wboth]
  | cons x l => rw [if_neg (List.cons_ne_nil _ _), if_pos h8, if_neg (List.cons_ne_nil _ _)]

theorem wf_small {n : Int} (h0 : -1 ≤ n) (h1 : n ≤ 255) : wf64 n = true := by
  unfold wf64 Lit.wf
  have e0 : IntKind.i64.min = -9223372036854775808 := by decide
  have e1 : IntKind.i64.max = 9223372036854775807 := by decide
  simp only [e0, e1, Bool.and_eq_true, decide_eq_true_eq]
  omega

theorem p_shard_Get {c : Config} {k : Int} {s : Shard} (h : sChkS c k s = true) {n : Int} (h0 : 0 ≤ n) (h1 : n ≤ 255) : F_ka8 s n = some (sGetA s.accounts n) := by
  simp only [sChkS, Bool.and_eq_true] at h
  have hl := accs_len h.2 (by omega)
  have hall : s.accounts.all (fun a => wf64 a.sender) = true := List.all_eq_true.2 fun a ha => by
    have := (sAcc_spec.1 (accs_mem h.2 a ha).1).1
    exact wf_small (by omega) (by omega)
  unfold F_ka8
  rw [if_pos ⟨wf_small (by omega) h1, hall, by omega⟩]

theorem p_task_Step {o : Op} {t : Task} {who : Int} {x : Sight} (h : TInv o t x) (hd : o.data.size ≤ 1048576) : F_kc3 t who x = some (sStep t who x) := by
  have hsx := may_sh h.may
  have hab := p_task_Able t who x hsx
  cases ha : sAble t who x with
  | false => rw [ha] at hab; rw [w_task_Step_no t who x hab]; unfold sStep; rw [if_pos ha]
  | true =>
  rw [ha] at hab
  obtain ⟨hw, hp0, hp5, hm, hfr, hk⟩ := able_spec ha
  have hS : Short (L t.op.data) := by rw [h.op]; simp only [Short]; rw [L_len]; omega
  have hcf := sCfg_spec.1 hm.cfg
  have hll := hm.llen
  have hsl := hm.slen
  have hsn := h.snd
  have hpl := h.plan
  have hsee := see_few h ha
  have hops := h.op
  obtain ⟨op, ph, sd, pl, rs, pt⟩ := t
  simp only at hp0 hp5 hfr hk hS hsn hpl hsee
  unfold sStep
  rw [if_neg (by simp [ha])]
  by_cases h0 : ph = 0
  · subst h0
    rw [(w_task_Step_p0).2 _ _ _ hab rfl, if_pos rfl]
    simp only [w_task_Step_p0, hab, Option.bind_some, Bool.true_eq_false, if_false, p_task_shard, p_look_Whose _ hS, p_look_Look x.config ⟨-1, 0, []⟩ op (by simp) hS]
    cases hwh : (sWhose op.kind op.sender (L op.data)).2 with
    | true => simp only [Bool.true_eq_false, if_false, if_true]
    | false => simp only [if_true, Bool.false_eq_true, if_false]; rfl
  rw [if_neg h0]
  by_cases h1 : ph = 1
  · subst h1
    obtain ⟨k0, k1⟩ := free_spec (hfr rfl)
    have hkk : (((sK (⟨op, 1, sd, pl, rs, pt⟩ : Task) x).toNat : Nat) : Int) = sK (⟨op, 1, sd, pl, rs, pt⟩ : Task) x := by omega
    have hT := p_lock_Take x.locks _ who k1 (by omega) hw
    rw [hkk] at hT
    rw [(w_task_Step_p1).2 _ _ _ hab rfl, if_pos rfl]
    simp only [w_task_Step_p1, hab, Option.bind_some, Bool.true_eq_false, if_false, p_task_shard, hT]
  rw [if_neg h1]
  obtain ⟨k0, k1⟩ := hk (by omega)
  have hkl := len_of k1
  by_cases h2 : ph = 2
  · subst h2
    obtain ⟨ks, hks⟩ : ∃ k, k = sK (⟨op, 2, sd, pl, rs, pt⟩ : Task) x := ⟨_, rfl⟩
    rw [← hks] at k0 k1 hkl
    have hs : ks.toNat < x.shards.length := by omega
    have hg := List.getElem?_eq_getElem hs
    have e : sShard (⟨op, 2, sd, pl, rs, pt⟩ : Task) x = x.shards[ks.toNat] := by unfold sShard; rw [← hks, hg]; rfl
    have hc := hm.sh _ _ hg
    obtain ⟨s0, s1⟩ := hsn (by omega) (by omega)
    obtain ⟨q1, q2⟩ := hsee rfl
    rw [e] at q1
    have hT : Tiny (sGetA (x.shards[ks.toNat]).accounts sd).txs := by have := (sAcc_spec.1 q1).1; simp only [Tiny]; omega
    rw [(w_task_Step_p2).2 _ _ _ hab rfl, if_pos rfl]
    simp only [w_task_Step_p2, hab, Option.bind_some, Bool.true_eq_false, if_false, p_task_shard, ← hks, k0, if_true, hg, p_shard_Get hc s0 s1, p_look_Look _ _ op hT hS]
    rw [show sSee (⟨op, 2, sd, pl, rs, pt⟩ : Task) x = sLook x.config (sGetA (x.shards[ks.toNat]).accounts sd) op.kind op.nonce (L op.data) from by unfold sSee; rw [e]]
    cases hch : (sLook x.config (sGetA (x.shards[ks.toNat]).accounts sd) op.kind op.nonce (L op.data)).changes with
    | true => simp only [Bool.true_eq_false, if_false, if_true]
    | false => simp only [if_true, Bool.false_eq_true, if_false]; rfl
  rw [if_neg h2]
  by_cases h3 : ph = 3
  · subst h3
    obtain ⟨_, _, d0, d1⟩ := hpl (.inl rfl)
    rw [(w_task_Step_p3).2 _ _ _ hab rfl, if_pos rfl]
    simp only [w_task_Step_p3, hab, Option.bind_some, Bool.true_eq_false, if_false, p_task_shard, p_pot_Adjust x.pot pl.delta (by omega), p_look_Full]
    by_cases hz : (sAdj x.pot pl.delta).2 = 0
    · rw [if_pos hz, if_pos hz]; rfl
    · rw [if_neg hz, if_neg hz]; rfl
  rw [if_neg h3]
  by_cases h4 : ph = 4
  · subst h4
    obtain ⟨ks, hks⟩ : ∃ k, k = sK (⟨op, 4, sd, pl, rs, pt⟩ : Task) x := ⟨_, rfl⟩
    rw [← hks] at k0 k1 hkl
    have hs : ks.toNat < x.shards.length := by omega
    have hg := List.getElem?_eq_getElem hs
    have e : sShard (⟨op, 4, sd, pl, rs, pt⟩ : Task) x = x.shards[ks.toNat] := by unfold sShard; rw [← hks, hg]; rfl
    have hc := hm.sh _ _ hg
    have hfew : (x.shards[ks.toNat]).accounts.length ≤ 1000000 := by
      simp only [sChkS, Bool.and_eq_true] at hc
      have := accs_len hc.2 (by omega)
      omega
    have hi : 0 ≤ ks ∧ ks < (x.shards.length : Int) := by omega
    rw [(w_task_Step_p4).2 _ _ _ hab rfl, if_pos rfl]
    simp only [w_task_Step_p4, hab, Option.bind_some, Bool.true_eq_false, if_false, p_task_shard, ← hks, p_Clone_Shard x.shards (by omega), hi, and_self, if_true, hg, p_shard_Set _ _ hfew, hs, e]
  rw [if_neg h4]
  obtain rfl : ph = 5 := by omega
  have hkk : (((sK (⟨op, 5, sd, pl, rs, pt⟩ : Task) x).toNat : Nat) : Int) = sK (⟨op, 5, sd, pl, rs, pt⟩ : Task) x := by omega
  have hT := p_lock_Give x.locks _ who k1 (by omega) hw
  rw [hkk] at hT
  rw [(w_task_Step_p5).2 _ _ _ hab rfl]
  simp only [w_task_Step_p5, hab, Option.bind_some, Bool.true_eq_false, if_false, p_task_shard, hT]

end Go.Vm

/- Layer 16, the document's small functions: few, the same, own and told. -/
set_option linter.unusedVariables false
set_option linter.unusedSimpArgs false
namespace Go.Vm
open Go Go.RowKit

theorem loop_done {α β : Type} {fin : Option β} : ∀ (k : List α) (i : Nat), loopL (γ := Unit) (fun _ _ _ => some (.inl ())) (fun _ => fin) i () k = fin
  | [], _ => rfl
  | _ :: k, i => loop_done k (i + 1)

theorem allI_true {α : Type} : ∀ (l : List α) (i : Nat), allI (fun _ _ => true) i l = true
  | [], _ => rfl
  | _ :: l, i => by unfold allI; rw [allI_true l (i + 1)]; rfl

theorem take_nx {α : Type} {l : List α} {i : Nat} {a : α} (h : l[i]? = some a) : l.take i ++ [a] = l.take (i + 1) := by
  rw [List.take_add_one, h]; rfl

theorem p_law11_Own (l : List Shard) (hl : l.length ≤ 1048576) : F_k1d l = some l := by
  simp only [F_k1d, pk_k1d]
  refine run_bind (γ := Unit) l (fun i _ => ⟨l, i, [], l.take i⟩) (fun _ _ _ => some (.inl ())) (fun _ => some (.inl ⟨l, l.length, [], l.take l.length⟩)) () rfl ?_ ?_ ?_
  · intro i c a ha
    obtain ⟨g1, g2, g3, g4⟩ := at_ ha (sh_of hl)
    have hil := (List.getElem?_eq_some_iff.1 ha).1
    have hr : ((l.take i).length + 1) * 32 ≤ 140737488355328 := by rw [List.length_take]; omega
    simp only [g1, g2, g3, g4, ha, if_true, Option.bind_some, hr, take_nx ha]
  · intro c; simp; try rfl
  · rw [loop_done]
    simp [selim]

theorem p_law16_OwnSight (x : Sight) (h : ShX x) : F_k2d x = some x := by
  simp only [F_k2d, pk_k2d, p_law11_Own _ h.2.1, Option.bind_some]

theorem p_law16_ToldSight (x : Sight) (h : ShX x) : F_k33 x = some x := by
  simp only [F_k33, pk_k33]
  refine run_bind (γ := Unit) x.shards (fun i _ => { i := i, s_ := x, config_shards := 0, config_soft := 0, config_hard := 0, config_per := 0, config_bump := 0, config_feed := 0, config_workers := 0, config_room := 0, pot_taken := 0, pot_most := 0, o2 := x.shards.take i, config_shards2 := x.config.shards, config_soft2 := x.config.soft, config_hard2 := x.config.hard, config_per2 := x.config.per, config_bump2 := x.config.bump, config_feed2 := x.config.feed, config_workers2 := x.config.workers, config_room2 := x.config.room, locks := x.locks, pot_taken2 := x.pot.taken, pot_most2 := x.pot.most }) (fun _ _ _ => some (.inl ())) (fun _ => some (.inl { i := x.shards.length, s_ := x, config_shards := 0, config_soft := 0, config_hard := 0, config_per := 0, config_bump := 0, config_feed := 0, config_workers := 0, config_room := 0, pot_taken := 0, pot_most := 0, o2 := x.shards.take x.shards.length, config_shards2 := x.config.shards, config_soft2 := x.config.soft, config_hard2 := x.config.hard, config_per2 := x.config.per, config_bump2 := x.config.bump, config_feed2 := x.config.feed, config_workers2 := x.config.workers, config_room2 := x.config.room, locks := x.locks, pot_taken2 := x.pot.taken, pot_most2 := x.pot.most })) () rfl ?_ ?_ ?_
  · intro i c a ha
    obtain ⟨g1, g2, g3, g4⟩ := at_ ha (sh_of h.2.1)
    have hil := (List.getElem?_eq_some_iff.1 ha).1
    have hr : ((x.shards.take i).length + 1) * 32 ≤ 140737488355328 := by have := h.2.1; rw [List.length_take]; omega
    simp only [g1, g2, g3, g4, ha, if_true, Option.bind_some, hr, take_nx ha]
  · intro c; simp; try rfl
  · rw [loop_done]
    simp [selim]

theorem p_r11_Few (l : List Acc) (m : Int) (h : l.length ≤ 1048576 ∧ ∀ a ∈ l, a.txs.length ≤ 1048576) : ∃ b, F_k7b l m = some b := by
  simp only [F_k7b, pk_k7b]
  refine ⟨_, all_run l (fun i => (⟨l, m, i⟩ : L_k7b_0)) (fun _ a => sFew a.txs 20) rfl ?_ ?_ rfl⟩
  · intro i a ha
    obtain ⟨g1, g2, g3, g4⟩ := at_ ha (sh_of h.1)
    simp only [g1, g2, g3, g4, ha, if_true, Option.bind_some, p_r04_Few a.txs 20 (sh_of (h.2 a (List.mem_of_getElem? ha)))]
    cases sFew a.txs 20 <;> (simp; try rfl)
  · simp; try rfl

theorem p_r16_Small (x : Sight) (h : ShX x) : ∃ b, F_ka3 x = some b := by
  simp only [F_ka3, pk_ka3]
  have hf : ∀ s : L_ka3_0, ∃ q, (if (s.s_.shards.length : Int) ≤ 10 then some (decide ((s.s_.locks.length : Int) ≤ 10)) else some false) = some q := by
    intro s; split <;> exact ⟨_, rfl⟩
  obtain ⟨q, hq⟩ := hf ⟨x.shards.length, x⟩
  have hfew : ∃ f : Acc → Bool, True := ⟨fun _ => true, trivial⟩
  obtain ⟨f, hfe⟩ : ∃ f : Shard → Bool, ∀ s ∈ x.shards, F_k7b s.accounts 20 = some (f s) := by
    refine ⟨fun s => (F_k7b s.accounts 20).getD false, fun s hs => ?_⟩
    obtain ⟨b, hb⟩ := p_r11_Few s.accounts 20 (h.2.2 s hs)
    show F_k7b s.accounts 20 = some ((F_k7b s.accounts 20).getD false)
    rw [hb]; rfl
  refine ⟨_, all_run x.shards (fun i => (⟨i, x⟩ : L_ka3_0)) (fun _ s => f s) rfl ?_ ?_ hq⟩
  · intro i a ha
    obtain ⟨g1, g2, g3, g4⟩ := at_ ha (sh_of h.2.1)
    simp only [g1, g2, g3, g4, ha, if_true, Option.bind_some, hfe a (List.mem_of_getElem? ha)]
    cases f a <;> (simp; try rfl)
  · simp; try rfl

theorem p_r11_Accounts (l : List Acc) (h : l.length ≤ 1048576 ∧ ∀ a ∈ l, a.txs.length ≤ 1048576) : F_k79 l l = some true := by
  simp only [F_k79, pk_k79, if_true]
  refine (all_run (q := true) l (fun i => (⟨l, l, i⟩ : L_k79_0)) (fun _ _ => true) rfl ?_ ?_ rfl).trans (by rw [allI_true]; rfl)
  · intro i a ha
    obtain ⟨g1, g2, g3, g4⟩ := at_ ha (sh_of h.1)
    simp only [g1, g2, g3, g4, ha, if_true, Option.bind_some, p_r05_Same a (sh_of (h.2 a (List.mem_of_getElem? ha))), Bool.true_eq_false, if_false]; rfl
  · simp; try rfl

end Go.Vm

/- Layer 13, plain: slots, rows that may be, all shards in one row; what the pool does. -/
set_option linter.unusedVariables false
set_option linter.unusedSimpArgs false
namespace Go.Vm
open Go Go.RowKit

abbrev ShA (l : List Acc) : Prop := l.length ≤ 1048576 ∧ ∀ a ∈ l, a.txs.length ≤ 1048576

theorem accSlots_loop {β : Type} (fin : Int → Option β) : ∀ (l : List Acc) (i : Nat) (n : Int), (∀ a ∈ l, a.txs.length ≤ 1048576) → i + l.length ≤ 1048576 → 0 ≤ n → n ≤ 13631488 * (i : Int) →
    loopL (fun _ n a => some (.inl (IntKind.i64.wrap (n + sQ a.txs)))) fin i n l = fin (n + sSlots l)
  | [], i, n, _, _, _, _ => by simp [loopL, slots_nil]
  | a :: l, i, n, ha, h, h0, h1 => by
    simp only [List.length_cons] at h
    have hq := sQ_range a.txs
    have hl := ha a List.mem_cons_self
    unfold loopL
    simp only
    rw [wrap64 (by omega) (by omega), accSlots_loop fin l (i + 1) _ (fun x hx => ha x (List.mem_cons_of_mem _ hx)) (by omega) (by omega) (by omega), slots_cons, Int.add_assoc]

theorem slots_range : ∀ {l : List Acc}, 0 ≤ sSlots l
  | [] => by simp [slots_nil]
  | a :: l => by rw [slots_cons]; have := (sQ_range a.txs).1; have := slots_range (l := l); omega

theorem slots_most : ∀ {l : List Acc}, (∀ a ∈ l, a.txs.length ≤ 1048576) → sSlots l ≤ 13631488 * (l.length : Int)
  | [], _ => by simp [slots_nil]
  | a :: l, h => by
    have := (sQ_range a.txs).2
    have := h a List.mem_cons_self
    have := slots_most (l := l) fun x hx => h x (List.mem_cons_of_mem _ hx)
    rw [slots_cons, List.length_cons]; omega

theorem p_shard_Slots (s : Shard) (h : ShS s) : F_kad s = some (sSlots s.accounts) := by
  simp only [F_kad, pk_kad]
  refine run_bind (γ := Int) s.accounts (fun i n => ⟨n, s.accounts, s.accounts.length, i, s⟩) (fun i n a => some (.inl (IntKind.i64.wrap (n + sQ a.txs)))) (fun n => some (.inl ⟨n, s.accounts, s.accounts.length, s.accounts.length, s⟩)) 0 rfl ?_ ?_ ?_
  · intro i c t ht
    obtain ⟨h1, h2, h3, h4⟩ := at_ ht (sh_of h.1)
    simp only [h1, h2, h3, h4, ht, if_true, Option.bind_some, p_queue_Slots t (sh_of (h.2 t (List.mem_of_getElem? ht)))]
  · intro c; simp
  · refine (congrArg (fun x => Option.bind x _) (accSlots_loop _ s.accounts 0 0 h.2 (by have := h.1; omega) (by omega) (by omega))).trans ?_
    simp [selim]

theorem p_r11_Slots (s : Shard) (h : ShS s) : F_k81 s = some (sSlots s.accounts) := by
  simp only [F_k81, pk_k81]
  refine run_bind (γ := Int) s.accounts (fun i n => ⟨n, i, s⟩) (fun i n a => some (.inl (IntKind.i64.wrap (n + sQ a.txs)))) (fun n => some (.inl ⟨n, s.accounts.length, s⟩)) 0 rfl ?_ ?_ ?_
  · intro i c t ht
    obtain ⟨h1, h2, h3, h4⟩ := at_ ht (sh_of h.1)
    simp only [h1, h2, h3, h4, ht, if_true, Option.bind_some, p_r05_Slots t (sh_of (h.2 t (List.mem_of_getElem? ht)))]
  · intro c; simp
  · refine (congrArg (fun x => Option.bind x _) (accSlots_loop _ s.accounts 0 0 h.2 (by have := h.1; omega) (by omega) (by omega))).trans ?_
    simp [selim]

theorem p_pool_Slots (l : List Acc) (h : ShA l) : F_k4b l = some (sSlots l) := p_shard_Slots ⟨l, 0⟩ h
theorem p_r13_Slots (l : List Acc) (h : ShA l) : F_k90 l = some (sSlots l) := p_r11_Slots ⟨l, 0⟩ h

theorem accs1 {per last : Int} {a : Acc} {l : List Acc} : sAccs per 1 0 last (a :: l) = ((sAcc a per && !emp a && decide (last < a.sender)) && sAccs per 1 0 a.sender l) := by
  simp only [sAccs]
  cases h : sAcc a per with
  | false => simp
  | true =>
    have hb := (sAcc_spec.1 h).1
    simp [shd_one hb.1 hb.2.1]

theorem pacc_loop (c : Config) (L : List Acc) : ∀ (l : List Acc) (i : Nat) (last : Int),
    (loopL (β := L_k47_0 ⊕ Bool) (fun _ (last : Int) (a : Acc) => some (if (sAcc a c.per && !emp a && decide (last < a.sender)) = true then .inl a.sender else .inr (.inr false))) (fun last => some (.inl ⟨last, L, L.length, L.length, c⟩)) i last l).bind (selim (fun s => some true) fun n => some n) = some (sAccs c.per 1 0 last l)
  | [], i, last => rfl
  | a :: l, i, last => by
    unfold loopL
    rw [accs1]
    by_cases h : (sAcc a c.per && !emp a && decide (last < a.sender)) = true
    · simp only [h, if_true, Bool.true_and]; exact pacc_loop c L l (i + 1) a.sender
    · simp [h, selim]

theorem p_pool_Check (c : Config) (l : List Acc) (h : ShA l) : F_k47 c l = some (sPool c l) := by
  simp only [F_k47, pk_k47, p_pool_Config, p_pool_Slots l h, Option.bind_some, sPool]
  cases hc : sCfg c with
  | false => simp
  | true =>
    by_cases hs : c.hard < sSlots l
    · simp [hs, show ¬ sSlots l ≤ c.hard by omega]
    rw [decide_eq_true (show sSlots l ≤ c.hard by omega)]
    simp only [Bool.true_eq_false, if_false, hs, Bool.true_and]
    refine run_bind (γ := Int) l (fun i last => ⟨last, l, l.length, i, c⟩) (fun _ last a => some (if (sAcc a c.per && !emp a && decide (last < a.sender)) = true then .inl a.sender else .inr (.inr false))) (fun last => some (.inl ⟨last, l, l.length, l.length, c⟩)) (-1) rfl ?_ ?_ ?_
    · intro i last a ha
      obtain ⟨h1, h2, h3, h4⟩ := at_ ha (sh_of h.1)
      have hm := List.mem_of_getElem? ha
      simp only [h1, h2, h3, h4, ha, if_true, Option.bind_some, p_queue_Check a c.per (sh_of (h.2 a hm))]
      by_cases g1 : sAcc a c.per = true
      · by_cases hb : a.base = 0
        · by_cases ht : a.txs = []
          · simp [g1, hb, ht, emp]
          · by_cases g3 : last < a.sender
            · have g5 : ¬ a.sender ≤ last := by omega
              simp [g1, hb, ht, emp, g3, g5]
            · have g5 : a.sender ≤ last := by omega
              simp [g1, hb, ht, emp, g3, g5]
        · by_cases g3 : last < a.sender
          · have g5 : ¬ a.sender ≤ last := by omega
            simp [g1, hb, emp, g3, g5]
          · have g5 : a.sender ≤ last := by omega
            simp [g1, hb, emp, g3, g5]
      · simp [g1]
    · intro last; simp
    · exact pacc_loop c l l 0 (-1)

theorem rpacc_loop (c : Config) (L : List Acc) : ∀ (l : List Acc) (i : Nat), L.drop i = l → ∀ last, (i = 0 → last = -1) → (0 < i → ∃ p, L[i - 1]? = some p ∧ last = p.sender) → -1 ≤ last →
    (loopL (γ := Unit) (β := L_k89_0 ⊕ Bool) (fun i _ (a : Acc) => if (sAcc a c.per && !emp a) = true then (if 0 < i then (match L[i - 1]? with | some p => if a.sender ≤ p.sender then some (.inr (.inr false)) else some (.inl ()) | none => none) else some (.inl ())) else some (.inr (.inr false))) (fun _ => some (.inl ⟨L, L.length, c⟩)) i () l).bind (selim (fun s => some true) fun n => some n) = some (sAccs c.per 1 0 last l)
  | [], i, hd, last, h0, h1, hl => rfl
  | a :: l, i, hd, last, h0, h1, hl => by
    obtain ⟨ht, hd', hil⟩ := drop_head hd
    unfold loopL
    rw [accs1]
    by_cases h : (sAcc a c.per && !emp a) = true
    · have hs := h
      simp only [Bool.and_eq_true] at hs
      have hb := (sAcc_spec.1 hs.1).1
      have ih := rpacc_loop c L l (i + 1) hd' a.sender (fun h => by omega) (fun _ => ⟨a, by simpa using ht, rfl⟩) (by omega)
      simp only [h, if_true, Bool.true_and]
      by_cases hi0 : i = 0
      · have e := h0 hi0
        have g : last < a.sender := by omega
        simp only [show ¬ 0 < i from by omega, if_false, g, decide_true, Bool.true_and]
        exact ih
      · obtain ⟨p, hp, he⟩ := h1 (by omega)
        simp only [show 0 < i from by omega, if_true, hp]
        by_cases g : a.sender ≤ p.sender
        · have g2 : ¬ last < a.sender := by omega
          simp [g, g2, selim]
        · have g2 : last < a.sender := by omega
          simp only [g, if_false, g2, decide_true, Bool.true_and]
          exact ih
    · simp [h, selim]

theorem p_r13_Check (c : Config) (l : List Acc) (h : ShA l) : F_k89 c l = some (sPool c l) := by
  simp only [F_k89, pk_k89, p_r13_Config, p_r13_Slots l h, Option.bind_some, sPool]
  cases hc : sCfg c with
  | false => simp
  | true =>
    by_cases hs : c.hard < sSlots l
    · simp [hs, show ¬ sSlots l ≤ c.hard by omega]
    rw [decide_eq_true (show sSlots l ≤ c.hard by omega)]
    simp only [Bool.true_eq_false, if_false, hs, Bool.true_and]
    refine run_bind (γ := Unit) l (fun i _ => ⟨l, i, c⟩) (fun i _ (a : Acc) => if (sAcc a c.per && !emp a) = true then (if 0 < i then (match l[i - 1]? with | some p => if a.sender ≤ p.sender then some (.inr (.inr false)) else some (.inl ()) | none => none) else some (.inl ())) else some (.inr (.inr false))) (fun _ => some (.inl ⟨l, l.length, c⟩)) () rfl ?_ ?_ ?_
    · intro i _ a ha
      obtain ⟨h1, h2, h3, h4⟩ := at_ ha (sh_of h.1)
      have hm := List.mem_of_getElem? ha
      have hil := (List.getElem?_eq_some_iff.1 ha).1
      simp only [h1, h2, h3, h4, ha, if_true, Option.bind_some, p_r05_Check a c.per (sh_of (h.2 a hm))]
      have key : ∀ (hi0 : ¬ i = 0), IntKind.i64.wrap ((i : Int) - 1) = ((i - 1 : Nat) : Int) ∧ (0 : Int) < (i : Int) ∧ 0 < i ∧ l[i - 1]? = some (l[i - 1]'(by omega)) ∧ (0 : Int) ≤ ((i - 1 : Nat) : Int) ∧ ((i - 1 : Nat) : Int).toNat = i - 1 := by
        intro hi0
        have hh := h.1
        refine ⟨?_, by omega, by omega, List.getElem?_eq_getElem (by omega), by omega, by omega⟩
        rw [wrap64 (by omega) (by omega)]; omega
      by_cases g1 : sAcc a c.per = true
      · by_cases hb : a.base = 0
        · by_cases ht : a.txs = []
          · simp [g1, hb, ht, emp]
          · by_cases hi0 : i = 0
            · subst hi0
              simp [g1, hb, ht, emp]
            · obtain ⟨e1, e2, e3, e5, e6, e7⟩ := key hi0
              simp only [g1, hb, ht, emp, e1, e2, e3, e5, e6, e7, Bool.true_eq_false, if_false, if_true, Option.bind_some, and_false, decide_false, Bool.not_false, Bool.and_true, Bool.true_and]
              by_cases g : a.sender ≤ (l[i - 1]'(by omega)).sender <;> simp [g]
        · by_cases hi0 : i = 0
          · subst hi0
            simp [g1, hb, emp]
          · obtain ⟨e1, e2, e3, e5, e6, e7⟩ := key hi0
            simp only [g1, hb, emp, e1, e2, e3, e5, e6, e7, Bool.true_eq_false, if_false, if_true, Option.bind_some, false_and, decide_false, Bool.not_false, Bool.and_true, Bool.true_and]
            by_cases g : a.sender ≤ (l[i - 1]'(by omega)).sender <;> simp [g]
      · simp [g1]
    · intro _; simp
    · exact rpacc_loop c l l 0 rfl (-1) (fun _ => rfl) (fun h => by omega) (by omega)

theorem p_r11_Get (s : Shard) (n : Int) (h : ShS s) : F_k7c s n = some (sGetA s.accounts n) := by
  simp only [F_k7c, pk_k7c]
  have key : ∀ (k : List Acc) (i : Nat), (loopL (γ := Unit) (β := L_k7c_0 ⊕ Acc) (fun _ _ (a : Acc) => if a.sender = n then some (.inr (.inr a)) else some (.inl ())) (fun _ => some (.inl ⟨n, s.accounts.length, s, 0, 0⟩)) i () k).bind (selim (fun s => some { sender := s.sender, base := 0, txs := [] }) fun r => some r) = some (sGetA k n) := by
    intro k
    induction k with
    | nil => intro i; rfl
    | cons a k ih =>
      intro i
      unfold loopL
      by_cases hn : a.sender = n
      · simp [hn, selim, sGetA]
      · simp only [hn, if_false]
        rw [ih (i + 1)]
        simp [sGetA, List.find?_cons, hn]
  refine run_bind (γ := Unit) s.accounts (fun i _ => ⟨n, i, s, 0, 0⟩) (fun _ _ (a : Acc) => if a.sender = n then some (.inr (.inr a)) else some (.inl ())) (fun _ => some (.inl ⟨n, s.accounts.length, s, 0, 0⟩)) () rfl ?_ ?_ (key s.accounts 0)
  · intro i _ a ha
    obtain ⟨h1, h2, h3, h4⟩ := at_ ha (sh_of h.1)
    simp only [h1, h2, h3, h4, ha, if_true, Option.bind_some]
    by_cases hn : a.sender = n <;> simp [hn]
  · intro _; simp

theorem room40 {n : Nat} (h : n ≤ 1099511627800) : n * 40 ≤ 140737488355328 := Nat.le_trans (Nat.mul_le_mul_right 40 h) (by decide)

theorem put_loop (x : Acc) (G : L_k84_0 ⊕ List Acc → Option (List Acc)) (st : Bool → List Acc → L_k84_0) (hG0 : ∀ out, out.length ≤ 1099511627780 → G (.inl (st false out)) = some (out ++ [x])) (hG1 : ∀ out, G (.inl (st true out)) = some out) :
    ∀ (k : List Acc) (i : Nat) (laid : Bool) (out : List Acc), out.length ≤ (if laid = true then i + 1 else i) → i + k.length ≤ 1099511627776 →
    (loopL (γ := Bool × List Acc) (β := L_k84_0 ⊕ List Acc) (fun _ c (a : Acc) => if c.1 = false ∧ x.sender < a.sender then (if (c.2.length + 1) * 40 ≤ 140737488355328 ∧ (c.2.length + 1 + 1) * 40 ≤ 140737488355328 then some (.inl (true, c.2 ++ [x, a])) else none) else if (c.2.length + 1) * 40 ≤ 140737488355328 then some (.inl (c.1, c.2 ++ [a])) else none) (fun c => some (.inl (st c.1 c.2))) i (laid, out) k).bind G = some (if laid = true then out ++ k else out ++ sInsA x k)
  | [], i, laid, out, h1, h2 => by
    simp only [List.length_nil] at h2
    cases laid with
    | false => simp at h1; simp only [loopL, Option.bind_some, hG0 out (by omega)]; simp [sInsA]
    | true => simp only [loopL, Option.bind_some, hG1]; simp
  | a :: k, i, laid, out, h1, h2 => by
    simp only [List.length_cons] at h2
    have h1' : out.length ≤ i + 1 := by split at h1 <;> omega
    have r1 : (out.length + 1) * 40 ≤ 140737488355328 := room40 (by omega)
    have r2 : (out.length + 1 + 1) * 40 ≤ 140737488355328 := room40 (by omega)
    unfold loopL
    cases laid with
    | true =>
      simp only [Bool.true_eq_false, false_and, if_false, r1, if_true]
      rw [put_loop x G st hG0 hG1 k (i + 1) true _ (by simp at h1 ⊢; omega) (by omega)]
      simp
    | false =>
      by_cases hx : x.sender < a.sender
      · simp only [hx, and_self, if_true, r1, r2]
        rw [put_loop x G st hG0 hG1 k (i + 1) true _ (by simp at h1 ⊢; omega) (by omega)]
        simp [sInsA, hx]
      · simp only [hx, and_false, if_false, r1, if_true]
        rw [put_loop x G st hG0 hG1 k (i + 1) false _ (by simp at h1 ⊢; omega) (by omega)]
        simp [sInsA, hx]

theorem p_r11_put (l : List Acc) (x : Acc) (h : l.length ≤ 1048576) : F_k84 l x = some (sInsA x l) := by
  simp only [F_k84, pk_k84]
  refine run_bind (γ := Bool × List Acc) l (fun i c => ⟨l, c.1, i, x, [], c.2⟩) (fun _ c (a : Acc) => if c.1 = false ∧ x.sender < a.sender then (if (c.2.length + 1) * 40 ≤ 140737488355328 ∧ (c.2.length + 1 + 1) * 40 ≤ 140737488355328 then some (.inl (true, c.2 ++ [x, a])) else none) else if (c.2.length + 1) * 40 ≤ 140737488355328 then some (.inl (c.1, c.2 ++ [a])) else none) (fun c => some (.inl ⟨l, c.1, l.length, x, [], c.2⟩)) (false, []) rfl ?_ ?_ ?_
  · intro i c a ha
    obtain ⟨h1, h2, h3, h4⟩ := at_ ha (sh_of h)
    obtain ⟨c1, c2⟩ := c
    simp only [h1, h2, h3, h4, ha, if_true, Option.bind_some]
    cases c1 with
    | true => simp; split <;> rfl
    | false =>
      by_cases hx : x.sender < a.sender
      · by_cases g1 : (c2.length + 1) * 40 ≤ 140737488355328 <;> by_cases g2 : (c2.length + 1 + 1) * 40 ≤ 140737488355328 <;> simp [hx, g1, g2]
      · simp [hx]; split <;> rfl
  · intro c; simp
  · refine (put_loop x _ (fun b o => ⟨l, b, l.length, x, [], o⟩) ?_ ?_ l 0 false [] (by simp) (by omega)).trans (by simp)
    · intro out ho
      have r1 : (out.length + 1) * 40 ≤ 140737488355328 := room40 (by omega)
      simp [selim, r1]
    · intro out; simp [selim]

theorem q_cons (t : Tx) (l : List Tx) : sQ (t :: l) = sTs t + sQ l := by simp [sQ]
theorem q_ins (t : Tx) : ∀ l : List Tx, sQ (sIns t l) = sQ l + sTs t
  | [] => by simp [sIns, sQ]
  | x :: l => by
    unfold sIns
    split
    · rw [q_cons, q_cons]; omega
    · rw [q_cons, q_cons, q_ins t l]; omega

theorem q_rep (t : Tx) : ∀ l : List Tx, (sFind l t.nonce).2 = true → sQ (sRep t l) = sQ l - sTs (sFind l t.nonce).1 + sTs t
  | [], h => by simp [sFind] at h
  | x :: l, h => by
    unfold sRep
    by_cases hx : x.nonce = t.nonce
    · have hf : sFind (x :: l) t.nonce = (x, true) := by simp [sFind, hx]
      rw [if_pos hx, hf, q_cons, q_cons]; simp only; omega
    · have hf : sFind (x :: l) t.nonce = sFind l t.nonce := by simp [sFind, List.find?_cons, hx]
      rw [hf] at h ⊢
      rw [if_neg hx, q_cons, q_cons, q_rep t l h]; omega

theorem place_delta {a : Acc} {t : Tx} {per bump : Int} (h : (sPlace a t per bump).2 = 0) : (sPlace a t per bump).1 = sQ (sPut a t).txs - sQ a.txs := by
  unfold sPlace at h ⊢
  simp only [sPut, sPutL]
  split at h
  · simp at h
  rename_i g1
  rw [if_neg g1]
  split at h
  · simp at h
  rename_i g2
  rw [if_neg g2]
  split at h
  · simp at h
  rename_i g3
  rw [if_neg g3]
  split at h
  · simp at h
  rename_i g4
  rw [if_neg g4]
  split at h
  · simp at h
  rename_i g5
  rw [if_neg g5]
  split at h
  · rename_i g6
    rw [if_pos g6, if_pos g6]
    split at h
    · simp at h
    rename_i g7
    rw [if_neg g7]
    split at h
    · simp at h
    rename_i g8
    rw [if_neg g8, q_rep t a.txs g6]; simp only; omega
  · rename_i g6
    rw [if_neg g6, if_neg g6]
    split at h
    · simp at h
    rename_i g7
    rw [if_neg g7, q_ins]; simp only; omega

end Go.Vm

/- Layer 13, plain: Add, Remove, Advance, Get of the pool. -/
set_option linter.unusedVariables false
set_option linter.unusedSimpArgs false
namespace Go.Vm
open Go Go.RowKit

theorem row_same {l : List Acc} (h : Rise l) (hne : ∀ a ∈ l, emp a = false) (s : Int) : sSetL l (sGetA l s) = l := by
  refine rise_ext (rise_set h) h fun x => ?_
  rw [mem_set]
  by_cases hx : ∃ a ∈ l, a.sender = s
  · obtain ⟨a, ha, rfl⟩ := hx
    rw [getA_mem h ha]
    constructor
    · rintro (⟨rfl, _⟩ | ⟨h1, _⟩)
      · exact ha
      · exact h1
    · intro hx
      by_cases e : x.sender = a.sender
      · have h1 := getA_mem h hx
        rw [e, getA_mem h ha] at h1
        exact .inl ⟨h1.symm, hne a ha⟩
      · exact .inr ⟨hx, e⟩
  · have hn : ∀ a ∈ l, a.sender ≠ s := fun a ha e => hx ⟨a, ha, e⟩
    rw [getA_none hn]
    constructor
    · rintro (⟨_, h1⟩ | ⟨h1, _⟩)
      · simp [emp] at h1
      · exact h1
    · exact fun hx => .inr ⟨hx, hn x hx⟩

theorem q_filter (p : Tx → Bool) : ∀ l : List Tx, sQ (l.filter p) ≤ sQ l
  | [] => by simp
  | x :: l => by
    have := q_filter p l
    have := (sTs_range x).1
    rw [List.filter_cons]
    split
    · rw [q_cons, q_cons]; omega
    · rw [q_cons]; omega

structure PoolS (c : Config) (l : List Acc) : Prop where
  cfg : sCfg c = true
  slots : sSlots l ≤ c.hard
  accs : sAccs c.per 1 0 (-1) l = true

theorem pool_spec {c : Config} {l : List Acc} : sPool c l = true ↔ PoolS c l := by
  simp only [sPool, Bool.and_eq_true, decide_eq_true_eq]
  exact ⟨fun h => ⟨h.1.1, h.1.2, h.2⟩, fun h => ⟨⟨h.cfg, h.slots⟩, h.accs⟩⟩

theorem PoolS.sh {c : Config} {l : List Acc} (h : PoolS c l) : ShA l := by
  have h1 := accs_len h.accs (by omega)
  have hc := sCfg_spec.1 h.cfg
  refine ⟨by omega, fun a ha => ?_⟩
  have := (sAcc_spec.1 (accs_mem h.accs a ha).1).1
  omega

theorem PoolS.rise {c : Config} {l : List Acc} (h : PoolS c l) : Rise l := (rise_accs h.accs).1
theorem PoolS.check {c : Config} {l : List Acc} (h : PoolS c l) : F_k47 c l = some true := by rw [p_pool_Check c l h.sh, pool_spec.2 h]

theorem PoolS.get {c : Config} {l : List Acc} (h : PoolS c l) {n : Int} (hn : wf64 n = true) (v : Int) : F_ka8 ⟨l, v⟩ n = some (sGetA l n) := by
  have h1 := accs_len h.accs (by omega)
  have hall : l.all (fun a => wf64 a.sender) = true := List.all_eq_true.2 fun a ha => by
    have := (sAcc_spec.1 (accs_mem h.accs a ha).1).1
    exact wf_small (by omega) (by omega)
  unfold F_ka8
  rw [if_pos ⟨hn, hall, by simp only; omega⟩]

theorem PoolS.set {c : Config} {l : List Acc} (h : PoolS c l) (a : Acc) : F_kaa ⟨l, 0⟩ a = some ⟨sSetL l a, 1⟩ := by
  have := h.sh.1
  have h1 := accs_len h.accs (by omega)
  rw [p_shard_Set ⟨l, 0⟩ a (by simp only; omega)]
  rfl

theorem PoolS.acc {c : Config} {l : List Acc} (h : PoolS c l) {s : Int} (h0 : 0 ≤ s) (h1 : s ≤ 255) : sAcc (sGetA l s) c.per = true ∧ (sGetA l s).sender = s := by
  have hc := sCfg_spec.1 h.cfg
  exact getA_acc h.accs h0 h1 (by omega)
theorem PoolS.out {c : Config} {l : List Acc} (h : PoolS c l) {s : Int} (hs : s < 0 ∨ 255 < s) : sGetA l s = ⟨s, 0, []⟩ := getA_none fun a ha e => by
  have := (sAcc_spec.1 (accs_mem h.accs a ha).1).1
  omega

theorem chk_mem {s : Int} : ∀ {l : List Tx} {nx : Int}, sChk s nx l = true → ∀ t ∈ l, t.sender = s ∧ sTx t = true
  | [], _, _, t, ht => by cases ht
  | x :: l, nx, h, t, ht => by
    simp only [sChk, Bool.and_eq_true, decide_eq_true_eq] at h
    rcases List.mem_cons.1 ht with rfl | ht
    · exact ⟨h.2.1, h.1⟩
    · exact chk_mem h.2.2.2 t ht

theorem find_mem {l : List Tx} {n : Int} (h : (sFind l n).2 = true) : (sFind l n).1 ∈ l ∧ (sFind l n).1.nonce = n := by
  unfold sFind at h ⊢
  cases hf : l.find? (fun t => decide (t.nonce = n)) with
  | none => rw [hf] at h; cases h
  | some t => exact ⟨List.mem_of_find?_eq_some hf, by simpa using List.find?_some hf⟩

theorem sShort {s : ByteArray} (h : s.size ≤ 1048576) : Short (L s) := by simp only [Short, L_len]; omega

theorem adv_tell {δ : Type} (s0 : L_k14_0) (h1 : s0.v43 = (s0.v42.length : Int)) (h2 : s0.v44 = 0) (h3 : s0.o5 = []) (hl : Short s0.v42) (G : L_k14_0 ⊕ L_k14_0 → Option δ) :
    (run (fun s : L_k14_0 => if s.v44 < s.v43 then if 0 ≤ s.v44 then s.v42[s.v44.toNat]?.bind fun a => if (s.o5.length + 1) * 72 ≤ 140737488355328 then some (Sum.inl { s with v44 := IntKind.i64.wrap (s.v44 + 1), o5 := s.o5 ++ [{ kind := 3, tx := a, n := 0 }] }) else none else none else some (Sum.inr (Sum.inl s))) s0).bind G = G (.inl { s0 with v44 := (s0.v42.length : Int), o5 := s0.v42.map dropEv }) := by
  refine run_bind (γ := List Event) s0.v42 (fun i c => { s0 with v44 := (i : Int), o5 := c }) (fun _ c t => if (c.length + 1) * 72 ≤ 140737488355328 then some (.inl (c ++ [dropEv t])) else none) (fun c => some (.inl { s0 with v44 := (s0.v42.length : Int), o5 := c })) [] (by rw [← h3]; show s0 = { s0 with v44 := ((0 : Nat) : Int) }; rw [show ((0 : Nat) : Int) = s0.v44 from h2.symm]) ?_ ?_ ?_
  · intro i c t ht
    obtain ⟨g1, g2, g3, g4⟩ := at_ ht hl
    simp only [h1, g1, g2, g3, g4, ht, if_true, Option.bind_some]
    split <;> rfl
  · intro c; simp [h1]
  · refine (congrArg (fun x => Option.bind x _) (loop_map dropEv _ s0.v42 0 [] (by have := hl; omega) (by simp))).trans ?_
    simp

theorem p_pool_Do {c : Config} {l : List Acc} {o : Op} (h : PoolS c l) (hk0 : 0 ≤ o.kind) (hk3 : o.kind ≤ 3) (hw : wf64 o.sender = true) (hd : o.data.size ≤ 1048576) :
    F_k49 c l o = some (sDo c l o.kind o.sender o.nonce (L o.data)) := by
  have hc := sCfg_spec.1 h.cfg
  have hP := h.check
  have hsh := h.sh
  have hr0 := slots_range (l := l)
  have hs := h.slots
  have hShort : ∀ s : Int, Short (sGetA l s).txs := by
    intro s
    by_cases hr : 0 ≤ s ∧ s ≤ 255
    · have := (sAcc_spec.1 (h.acc hr.1 hr.2).1).1
      simp only [Short]; omega
    · rw [h.out (by omega)]; simp
  obtain ⟨k, s, n, gas, data⟩ := o
  simp only at hk0 hk3 hw hd ⊢
  have hcase : k = 0 ∨ k = 1 ∨ k = 2 ∨ k = 3 := by omega
  rcases hcase with rfl | rfl | rfl | rfl
  · -- Add
    rw [w_pool_Do_k0.2 c l _ hP rfl]
    have hdec : F_kcf data = some (decR (sDec (L data))) := by
      have := p_txn_Decode (L data) (sShort hd)
      rwa [mk_L] at this
    simp only [w_pool_Do_k0, hdec, Option.bind_some]
    cases hsd : sDec (L data) with
    | none => simp [decR, sDo, sPlan, sWhose, hsd, sLook, sAdd, wrong, zTx]
    | some t =>
      have ht := sTx_spec (sDec_ok hsd)
      have hg := h.get (n := t.sender) (wf_small (by omega) (by omega)) 0
      have hsl := hShort t.sender
      simp only [decR, Bool.true_eq_false, if_false, hg, Option.bind_some, p_queue_Place _ t _ _ hsl, p_shard_Slots ⟨l, 0⟩ hsh, p_queue_Find _ _ hsl, p_queue_Put _ t hsl, h.set]
      have hwr : IntKind.i64.wrap (c.hard - sSlots l) = c.hard - sSlots l := wrap64 (by omega) (by omega)
      simp only [hwr]
      have hpl : sPlan c l 0 s n (L data) = sAdd c (sGetA l t.sender) (L data) := by simp [sPlan, sWhose, hsd, decR, sLook]
      simp only [sDo, hpl, sAdd, hsd]
      by_cases hz : (sPlace (sGetA l t.sender) t c.per c.bump).2 = 0
      · have hdl := place_delta hz
        simp only [hz, if_true, sTo, ← hdl]
        by_cases hf : c.hard - sSlots l < (sPlace (sGetA l t.sender) t c.per c.bump).1
        · simp [hf, zTx]
        · simp only [hf, if_false]
          cases hb : (sFind (sGetA l t.sender).txs t.nonce).2 with
          | true => simp [zRes, zTx]
          | false => simp [zRes, zTx]
      · simp [hz, wrong, zTx]
  · -- Remove
    rw [w_pool_Do_k1.2 c l _ hP rfl]
    simp only [w_pool_Do_k1, h.get hw 0, Option.bind_some, p_queue_Find _ _ (hShort s)]
    cases hb : (sFind (sGetA l s).txs n).2 with
    | false =>
      simp only [if_true]
      by_cases hr : 0 ≤ s ∧ s ≤ 255
      · have hpl : sPlan c l 1 s n (L data) = wrong 7 := by
          have e : ¬ (s < 0 ∨ 255 < s) := by omega
          simp [sPlan, sWhose, sLook, sDropP, hb, e, show ¬ s < 0 by omega, show ¬ 255 < s by omega]
        simp [sDo, hpl, wrong, zTx]
      · have hpl : sPlan c l 1 s n (L data) = wrong 7 := by
          have e : s < 0 ∨ 255 < s := by omega
          simp [sPlan, sWhose, sLook, sDropP, e, sFind]
        simp [sDo, hpl, wrong, zTx]
    | true =>
      have hr : 0 ≤ s ∧ s ≤ 255 := by
        by_cases hr : 0 ≤ s ∧ s ≤ 255
        · exact hr
        · rw [h.out (by omega)] at hb; simp [sFind] at hb
      obtain ⟨hacc, hsn⟩ := h.acc hr.1 hr.2
      obtain ⟨hm, hnn⟩ := find_mem hb
      have hts := (chk_mem (sAcc_spec.1 hacc).2 _ hm).1
      rw [hsn] at hts
      have hpl : sPlan c l 1 s n (L data) = sTo (sGetA l s) (sDrop (sGetA l s) n) [⟨3, (sFind (sGetA l s).txs n).1, 0⟩] ⟨0, (sFind (sGetA l s).txs n).1, [], 0⟩ true := by
        simp [sPlan, sWhose, sLook, sDropP, hb, show ¬ s < 0 by omega, show ¬ 255 < s by omega]
      have hq := q_filter (fun t => decide (t.nonce ≠ n)) (sGetA l s).txs
      have hle : ¬ c.hard - sSlots l < sQ (sDrop (sGetA l s) n).txs - sQ (sGetA l s).txs := by
        have : sQ (sDrop (sGetA l s) n).txs ≤ sQ (sGetA l s).txs := hq
        omega
      simp only [Bool.true_eq_false, if_false, hts, hnn, h.get hw 0, Option.bind_some, p_queue_Drop _ _ (hShort s), h.set, sDo, hpl, sTo, if_true, hle]
  · -- Advance
    rw [w_pool_Do_k2.2 c l _ hP rfl]
    simp only [w_pool_Do_k2, p_pool_in, Option.bind_some]
    by_cases hr : 0 ≤ s ∧ s ≤ 255
    · simp only [hr, and_self, decide_true, Bool.true_eq_false, if_false, h.get hw 0, Option.bind_some, p_queue_Advance _ _ (hShort s)]
      obtain ⟨hacc, hsn⟩ := h.acc hr.1 hr.2
      have hpl : sPlan c l 2 s n (L data) = sAdvP (sGetA l s) n := by
        simp [sPlan, sWhose, sLook, show ¬ s < 0 by omega, show ¬ 255 < s by omega]
      have hsr : ¬ ((sGetA l s).sender < 0 ∨ 255 < (sGetA l s).sender) := by omega
      by_cases hz : (sAdv (sGetA l s) n).2.2 = 0
      · simp only [hz, if_true, h.set, Option.bind_some]
        have hgl : Short (sAdv (sGetA l s) n).2.1 := Nat.le_trans (sAdv_len _ n).2 (hShort s)
        refine (adv_tell _ rfl rfl rfl hgl _).trans ?_
        simp only [selim, sDo, hpl, sAdvP, hsr, if_false, hz, if_true, sTo]
        have hq : sQ (sAdv (sGetA l s) n).1.txs ≤ sQ (sGetA l s).txs := by
          unfold sAdv
          split
          · exact Int.le_refl _
          · split
            · exact Int.le_refl _
            · exact q_filter _ _
        have hle : ¬ c.hard - sSlots l < sQ (sAdv (sGetA l s) n).1.txs - sQ (sGetA l s).txs := by omega
        by_cases hch : (sGetA l s).base < n ∨ 0 < (sAdv (sGetA l s) n).2.1.length
        · simp [hch, hle, zTx]
        · have hsame : (sAdv (sGetA l s) n).1 = sGetA l s ∧ (sAdv (sGetA l s) n).2.1 = [] := by
            have hg0 : (sAdv (sGetA l s) n).2.1 = [] := by
              cases hg : (sAdv (sGetA l s) n).2.1 with
              | nil => rfl
              | cons a b => rw [hg] at hch; simp at hch
            refine ⟨?_, hg0⟩
            revert hg0 hz hch
            unfold sAdv
            split
            · intro hz; simp at hz
            · split
              · intro hz; simp at hz
              · rename_i g1 g2
                intro _ hch hg0
                simp only at hch hg0 ⊢
                have hb : n = (sGetA l s).base := by omega
                have hft : ((sGetA l s).txs.filter fun t => !decide (t.nonce < n)) = (sGetA l s).txs := by
                  refine List.filter_eq_self.2 fun t ht => ?_
                  have := List.filter_eq_nil_iff.1 hg0 t ht
                  simpa using this
                rw [hft, hb]
          have hset := row_same h.rise (fun a ha => (accs_mem h.accs a ha).2.1) s
          simp only [decide_eq_false hch, Bool.false_eq_true, if_false]
          rw [hsame.1, hsame.2]
          simp [hset, zTx]
      · simp only [hz, if_false]
        simp [sDo, hpl, sAdvP, hsr, hz, wrong, zTx]
    · have hpl : sPlan c l 2 s n (L data) = wrong 1 := by
        have e : s < 0 ∨ 255 < s := by omega
        simp [sPlan, sWhose, sLook, sAdvP, e]
      simp [hr, sDo, hpl, wrong, zTx]
  · -- Get
    rw [w_pool_Do_k3.2 c l _ hP rfl]
    simp only [w_pool_Do_k3, h.get hw 0, Option.bind_some, p_queue_Find _ _ (hShort s)]
    by_cases hr : 0 ≤ s ∧ s ≤ 255
    · have hpl : sPlan c l 3 s n (L data) = sGet (sGetA l s) n := by
        simp [sPlan, sWhose, sLook, show ¬ s < 0 by omega, show ¬ 255 < s by omega]
      cases hb : (sFind (sGetA l s).txs n).2 <;> simp [sDo, hpl, sGet, hb, wrong, zTx]
    · have hpl : sPlan c l 3 s n (L data) = wrong 7 := by
        have e : s < 0 ∨ 255 < s := by omega
        simp [sPlan, sWhose, sLook, sGet, e, sFind]
      rw [h.out (by omega)]
      simp [sFind, sDo, hpl, wrong, zTx]

end Go.Vm

/- Layer 11's reference: a row with one account; all shards in one row. -/
set_option linter.unusedVariables false
set_option linter.unusedSimpArgs false
namespace Go.Vm
open Go Go.RowKit

theorem rset_loop (x : Acc) (G : L_k80_0 ⊕ Shard → Option Shard) (st : Bool → List Acc → L_k80_0) (F : List Acc → Option Shard) (hG0 : ∀ out, out.length ≤ 1099511627780 → G (.inl (st false out)) = F (out ++ [x])) (hG1 : ∀ out, G (.inl (st true out)) = F out) :
    ∀ (k : List Acc) (i : Nat) (laid : Bool) (out : List Acc), out.length ≤ (if laid = true then i + 1 else i) → i + k.length ≤ 1099511627776 →
    (loopL (γ := Bool × List Acc) (β := L_k80_0 ⊕ Shard) (fun _ c (a : Acc) => if a.sender = x.sender then some (.inl c) else if c.1 = false ∧ x.sender < a.sender then (if (c.2.length + 1) * 40 ≤ 140737488355328 ∧ (c.2.length + 1 + 1) * 40 ≤ 140737488355328 then some (.inl (true, c.2 ++ [x, a])) else none) else if (c.2.length + 1) * 40 ≤ 140737488355328 then some (.inl (c.1, c.2 ++ [a])) else none) (fun c => some (.inl (st c.1 c.2))) i (laid, out) k).bind G = F (if laid = true then out ++ sDelA k x.sender else out ++ sInsA x (sDelA k x.sender))
  | [], i, laid, out, h1, h2 => by
    simp only [List.length_nil] at h2
    cases laid with
    | false => simp at h1; simp only [loopL, Option.bind_some, hG0 out (by omega)]; simp [sInsA, sDelA]
    | true => simp only [loopL, Option.bind_some, hG1]; simp [sDelA]
  | a :: k, i, laid, out, h1, h2 => by
    simp only [List.length_cons] at h2
    have h1' : out.length ≤ i + 1 := by split at h1 <;> omega
    have r1 : (out.length + 1) * 40 ≤ 140737488355328 := room40 (by omega)
    have r2 : (out.length + 1 + 1) * 40 ≤ 140737488355328 := room40 (by omega)
    unfold loopL
    by_cases he : a.sender = x.sender
    · have hd : sDelA (a :: k) x.sender = sDelA k x.sender := by simp [sDelA, List.filter_cons, he]
      simp only [he, if_true]
      rw [rset_loop x G st F hG0 hG1 k (i + 1) laid out (by split at h1 <;> (rename_i q; simp [q]; omega)) (by omega), hd]
    have hd : sDelA (a :: k) x.sender = a :: sDelA k x.sender := by simp [sDelA, List.filter_cons, he]
    rw [hd]
    simp only [he, if_false]
    cases laid with
    | true =>
      simp only [Bool.true_eq_false, false_and, if_false, r1, if_true]
      rw [rset_loop x G st F hG0 hG1 k (i + 1) true _ (by simp at h1 ⊢; omega) (by omega)]
      simp
    | false =>
      by_cases hx : x.sender < a.sender
      · simp only [hx, and_self, if_true, r1, r2]
        rw [rset_loop x G st F hG0 hG1 k (i + 1) true _ (by simp at h1 ⊢; omega) (by omega)]
        simp [sInsA, hx]
      · simp only [hx, and_false, if_false, r1, if_true]
        rw [rset_loop x G st F hG0 hG1 k (i + 1) false _ (by simp at h1 ⊢; omega) (by omega)]
        simp [sInsA, hx]

theorem p_r11_Set (l : List Acc) (x : Acc) (h : l.length ≤ 1048576) : F_k80 ⟨l, 0⟩ x = some ⟨sSetL l x, 1⟩ := by
  simp only [F_k80, pk_k80, p_r11_empty, Option.bind_some]
  rw [show decide (x.base = 0 ∧ x.txs = []) = emp x from rfl]
  refine run_bind (γ := Bool × List Acc) l (fun i c => ⟨c.1, i, ⟨l, 0⟩, x, 0, c.2⟩) (fun _ c (a : Acc) => if a.sender = x.sender then some (.inl c) else if c.1 = false ∧ x.sender < a.sender then (if (c.2.length + 1) * 40 ≤ 140737488355328 ∧ (c.2.length + 1 + 1) * 40 ≤ 140737488355328 then some (.inl (true, c.2 ++ [x, a])) else none) else if (c.2.length + 1) * 40 ≤ 140737488355328 then some (.inl (c.1, c.2 ++ [a])) else none) (fun c => some (.inl ⟨c.1, l.length, ⟨l, 0⟩, x, 0, c.2⟩)) (emp x, []) rfl ?_ ?_ ?_
  · intro i c a ha
    obtain ⟨h1, h2, h3, h4⟩ := at_ ha (sh_of h)
    obtain ⟨c1, c2⟩ := c
    simp only [h1, h2, h3, h4, ha, if_true, Option.bind_some]
    by_cases he : a.sender = x.sender
    · simp [he]
    cases c1 with
    | true => simp [he]; split <;> rfl
    | false =>
      by_cases hx : x.sender < a.sender
      · by_cases g1 : (c2.length + 1) * 40 ≤ 140737488355328 <;> by_cases g2 : (c2.length + 1 + 1) * 40 ≤ 140737488355328 <;> simp [he, hx, g1, g2]
      · simp [he, hx]; split <;> rfl
  · intro c; simp
  · refine (rset_loop x _ (fun b o => ⟨b, l.length, ⟨l, 0⟩, x, 0, o⟩) (fun o => some ⟨o, 1⟩) ?_ ?_ l 0 (emp x) [] (by simp) (by omega)).trans ?_
    · intro out ho
      have r1 : (out.length + 1) * 40 ≤ 140737488355328 := room40 (by omega)
      simp [selim, r1]; try rfl
    · intro out; simp [selim]; try rfl
    · unfold sSetL
      cases emp x <;> simp

theorem joinA_len : ∀ (l m : List Acc), (sJoinA m l).length = m.length + l.length
  | [], m => by simp [sJoinA]
  | a :: l, m => by
    have e : sJoinA m (a :: l) = sJoinA (sInsA a m) l := rfl
    have hi : ∀ k : List Acc, (sInsA a k).length = k.length + 1 := by
      intro k
      induction k with
      | nil => rfl
      | cons b k ih => unfold sInsA; split <;> simp [ih]
    rw [e, joinA_len, hi]; simp; omega

noncomputable def loopP : List Acc → List Acc → Option (List Acc)
  | c, [] => some c
  | c, a :: k => (F_k84 c a).bind fun r => loopP r k

theorem loopP_ok : ∀ (k c : List Acc), c.length + k.length ≤ 1048576 → loopP c k = some (sJoinA c k)
  | [], c, _ => rfl
  | a :: k, c, h => by
    simp only [List.length_cons] at h
    have e1 : (sInsA a c).length = c.length + 1 := joinA_len [a] c
    have e : sJoinA c (a :: k) = sJoinA (sInsA a c) k := rfl
    rw [loopP, p_r11_put c a (by omega), Option.bind_some, loopP_ok k (sInsA a c) (by omega), e]

theorem loopP_loop {β : Type} (fin : List Acc → Option β) : ∀ (k : List Acc) (i : Nat) (c : List Acc), loopL (fun _ c a => (F_k84 c a).bind fun r => some (.inl r)) fin i c k = (loopP c k).bind fin
  | [], i, c => rfl
  | a :: k, i, c => by
    unfold loopL loopP
    cases F_k84 c a with
    | none => rfl
    | some r => exact loopP_loop fin k (i + 1) r

theorem joinS_loop {β : Type} (fin : List Acc → Option β) : ∀ (K : List Shard) (i : Nat) (c : List Acc), (∀ s ∈ K, s.accounts.length ≤ 1024) → c.length + 1024 * K.length ≤ 1048576 →
    loopL (fun _ c (s : Shard) => (loopP c s.accounts).bind fun r => some (.inl r)) fin i c K = fin (K.foldl (fun acc s => sJoinA acc s.accounts) c)
  | [], i, c, _, _ => rfl
  | s :: K, i, c, hs, h => by
    simp only [List.length_cons] at h
    have h1 := hs s List.mem_cons_self
    have hl := joinA_len s.accounts c
    unfold loopL
    rw [loopP_ok s.accounts c (by omega)]
    exact joinS_loop fin K (i + 1) _ (fun x hx => hs x (List.mem_cons_of_mem _ hx)) (by omega)

theorem p_r11_Join (L : List Shard) (h : L.length ≤ 1024) (hs : ∀ s ∈ L, s.accounts.length ≤ 1024) : F_k7d L = some (sJoin L) := by
  simp only [F_k7d, pk_k7d]
  refine run_bind (γ := List Acc) L (fun i c => ⟨L, c, i, []⟩) (fun _ c (s : Shard) => (loopP c s.accounts).bind fun r => some (.inl r)) (fun c => some (.inl ⟨L, c, L.length, []⟩)) [] rfl ?_ ?_ ?_
  · intro i c s ha
    obtain ⟨h1, h2, h3, h4⟩ := at_ ha (sh_of (by omega))
    have hsl := hs s (List.mem_of_getElem? ha)
    simp only [h1, if_true]
    refine (run_bind (γ := List Acc) (σ := L_k7d_2) (β := L_k7d_2 ⊕ (L_k7d_0 ⊕ (L_k7d_0 ⊕ List Acc))) s.accounts (fun k c => ⟨L, c, i, k, []⟩) (fun _ c a => (F_k84 c a).bind fun r => some (.inl r)) (fun c => some (.inl ⟨L, c, i, s.accounts.length, []⟩)) c rfl ?_ ?_ rfl).trans ?_
    · intro k c a hk
      obtain ⟨g1, g2, g3, g4⟩ := at_ hk (sh_of (by omega))
      simp only [h2, h3, ha, g1, g2, g3, g4, hk, if_true, Option.bind_some]
      cases F_k84 c a <;> rfl
    · intro c; simp [ha]; try rfl
    · rw [loopP_loop]
      cases loopP c s.accounts with
      | none => rfl
      | some r => simp only [Option.bind_some]; exact (congrArg (fun z => some (Sum.inl (⟨L, r, z, []⟩ : L_k7d_0))) h4)
  · intro c; simp
  · refine (congrArg (fun x => Option.bind x _) (joinS_loop _ L 0 [] hs (by simp; omega))).trans ?_
    simp [selim, sJoin]

end Go.Vm

/- Why LookPool answers true. -/
set_option linter.unusedVariables false
set_option linter.unusedSimpArgs false
namespace Go.Vm
open Go Go.RowKit

theorem whose_no {c : Config} {k s n : Int} {d : List UInt8} (hk0 : 0 ≤ k) (hk3 : k ≤ 3) (h : (sWhose k s d).2 = false) : ∃ e, ¬ e = 0 ∧ sLook c ⟨-1, 0, []⟩ k n d = wrong e := by
  have hcase : k = 0 ∨ k = 1 ∨ k = 2 ∨ k = 3 := by omega
  rcases hcase with rfl | rfl | rfl | rfl
  · refine ⟨2, by decide, ?_⟩
    cases hd : sDec d with
    | none => simp [sLook, sAdd, hd]
    | some t => simp [sWhose, hd, decR] at h
  · exact ⟨7, by decide, by simp [sLook, sDropP, sFind]⟩
  · exact ⟨1, by decide, by simp [sLook, sAdvP]⟩
  · exact ⟨7, by decide, by simp [sLook, sGet, sFind]⟩

theorem events_refl (l : List Event) (h : l.length ≤ 1048576) : F_k8c l l = some true := p_r13_Events l (sh_of h)

theorem PoolS.sets {c : Config} {l : List Acc} (h : PoolS c l) {a : Acc} (ha : sAcc a c.per = true) : sAccs c.per 1 0 (-1) (sSetL l a) = true := by
  have hb := (sAcc_spec.1 ha).1
  exact accs_set h.accs ha (shd_one hb.1 hb.2.1) (by omega)

theorem accs_sh {c : Config} {l : List Acc} (hc : sCfg c = true) (h : sAccs c.per 1 0 (-1) l = true) : ShA l := by
  have h1 := accs_len h (by omega)
  have hc := sCfg_spec.1 hc
  refine ⟨by omega, fun a ha => ?_⟩
  have := (sAcc_spec.1 (accs_mem h a ha).1).1
  omega

theorem look_pool_true (c : Config) (l : List Acc) (o : Op) (hA : ShA l) (hb : o.data.size ≤ 1048576) (hw : wf64 o.sender = true) : F_k28 c l o = some true := by
  have hlive : F_k2c = some true := w_law15_live_a
  obtain ⟨few, hfew⟩ := p_r11_Few l 20 hA
  simp only [F_k28, pk_k28, hfew, p_r13_Check c l hA, Option.bind_some, hlive]
  cases few with
  | false => simp
  | true =>
  by_cases hd : (500 : Int) < (o.data.size : Int)
  · simp [hd]
  cases hp : sPool c l with
  | false => simp [hd, show (o.data.size : Int) ≤ 500 by omega]
  | true =>
  by_cases hk0 : o.kind < 0
  · simp [hd, hk0, show (o.data.size : Int) ≤ 500 by omega]
  by_cases hk3 : 3 < o.kind
  · simp [hd, hk0, hk3, show (o.data.size : Int) ≤ 500 by omega, show 0 ≤ o.kind by omega]
  have hP := pool_spec.1 hp
  have hsh := hP.sh
  have hc := sCfg_spec.1 hP.cfg
  have hr0 := slots_range (l := l)
  have hs := hP.slots
  have hsd : Short (L o.data) := sShort hb
  simp only [hd, hk0, hk3, show (o.data.size : Int) ≤ 500 by omega, show 0 ≤ o.kind by omega, Bool.true_eq_false, or_false, false_or, and_self, if_true, if_false, or_true, p_pool_Do hP (by omega) (by omega) hw hb, p_look_Whose o hsd, Option.bind_some]
  have hk0' : 0 ≤ o.kind := by omega
  have hk3' : o.kind ≤ 3 := by omega
  cases hwh : (sWhose o.kind o.sender (L o.data)).2 with
  | false =>
    obtain ⟨e, he, hl⟩ := whose_no (c := c) (n := o.nonce) hk0' hk3' hwh
    have hpl : sPlan c l o.kind o.sender o.nonce (L o.data) = wrong e := by simp [sPlan, hwh, hl]
    simp [sDo, hpl, wrong, he]
  | true =>
    have hrg := whose_range hwh
    obtain ⟨w, hwe⟩ : ∃ w, w = (sWhose o.kind o.sender (L o.data)).1 := ⟨_, rfl⟩
    rw [← hwe] at hrg
    obtain ⟨hacc, hsn⟩ := hP.acc hrg.1 hrg.2
    have htx := (sAcc_spec.1 hacc).1
    have htiny : Tiny (sGetA l w).txs := by simp only [Tiny]; omega
    have hpl : sPlan c l o.kind o.sender o.nonce (L o.data) = sLook c (sGetA l w) o.kind o.nonce (L o.data) := by simp [sPlan, hwh, ← hwe]
    have hlen := sLook_len c (sGetA l w) o.kind o.nonce (L o.data)
    have hwr : IntKind.i64.wrap (c.hard - sSlots l) = c.hard - sSlots l := wrap64 (by omega) (by omega)
    simp only [Bool.true_eq_false, if_false, ← hwe, p_r11_Get ⟨l, 0⟩ w hsh, p_look_Look c (sGetA l w) o htiny hsd, p_r13_Slots l hsh, p_look_Full, Option.bind_some, hwr, sDo, hpl]
    generalize hpe : sLook c (sGetA l w) o.kind o.nonce (L o.data) = p at hlen ⊢
    obtain ⟨l1, l2, l3⟩ := hlen
    have hSame : F_k8f p.result p.result = some true := p_r13_Same p.result (sh_of (by omega))
    have hEv : F_k8c p.events p.events = some true := events_refl p.events (by omega)
    have hAl : F_k79 l l = some true := p_r11_Accounts l hsh
    by_cases he : p.result.err = 0
    · simp only [he, if_true]
      by_cases hf : c.hard - sSlots l < p.delta
      · have hch : p.changes = true := by
          cases hch : p.changes with
          | true => rfl
          | false =>
            have := (plan_still (by rw [hpe]; exact he) (by rw [hpe]; exact hch)).1
            rw [hpe] at this; omega
        simp [hf, hch, sFull, show 0 < p.delta by omega, hAl]
      · cases hch : p.changes with
        | true =>
          have hma := (plan_may hacc (by rw [hpe]; exact he) (by rw [hpe]; exact hch)).1
          rw [hpe] at hma
          have hsa := accs_sh hP.cfg (hP.sets hma)
          have hAs : F_k79 (sSetL l p.after) (sSetL l p.after) = some true := p_r11_Accounts _ hsa
          simp [hf, p_r11_Set l p.after hsh.1, hSame, hEv, hAs]
        | false =>
          have hev := (plan_still (by rw [hpe]; exact he) (by rw [hpe]; exact hch)).2
          rw [hpe] at hev
          have hev' : p.events = [] := List.eq_nil_of_length_eq_zero hev
          rw [hev'] at hEv ⊢
          simp [hf, hSame, hEv, hAl]
    · obtain ⟨e, hwp⟩ := wrong_err (c := c) (a := sGetA l w) (k := o.kind) (n := o.nonce) (l := L o.data) (by rw [hpe]; exact he)
      rw [hpe] at hwp
      have hch : p.changes = false := by rw [hwp]; rfl
      have hev' : p.events = [] := by rw [hwp]; rfl
      rw [hev'] at hEv ⊢
      simp [he, hch, hSame, hEv, hAl]

end Go.Vm
