/- Layers 2, 7, 9, 11, 13, 16: the small functions, program = document. -/
import Derived.Test.YtaidpcnnggknnaaGreatP
import Derived.Test.YtaidpcnnggknnaaGreatYa
import Derived.Test.YtaidpcnnggknnaaGreatYb
import Derived.Test.YtaidpcnnggknnaaGreatK
import Derived.Test.YtaidpcnnggknnaaGreatYc
import Derived.Test.YtaidpcnnggknnaaGreatWd
import Derived.Test.YtaidpcnnggknnaaGreatZa
import Derived.Test.YtaidpcnnggknnaaGreatD
import Derived.Test.YtaidpcnnggknnaaGreatE

set_option linter.unusedVariables false
set_option linter.unusedSimpArgs false
namespace Go.Vm
open Go Go.RowKit

def sCfg (c : Config) : Bool := decide (1 ≤ c.shards ∧ c.shards ≤ 8 ∧ 0 ≤ c.soft ∧ c.soft ≤ c.hard ∧ 1 ≤ c.hard ∧ c.hard ≤ 1000 ∧ 1 ≤ c.per ∧ c.per ≤ 16 ∧ 0 ≤ c.bump ∧ c.bump ≤ 100 ∧ 1 ≤ c.feed ∧ c.feed ≤ 16 ∧ 1 ≤ c.workers ∧ c.workers ≤ 4 ∧ 1 ≤ c.room ∧ c.room ≤ 8)

theorem p_pool_in (n a b : Int) : F_k4c n a b = some (decide (a ≤ n ∧ n ≤ b)) := by
  simp only [F_k4c, pk_k4c]
  split
  · congr 1; rw [decide_eq_decide]; omega
  · congr 1; exact (decide_eq_false (by omega)).symm

theorem p_pool_Config (c : Config) : F_k48 c = some (sCfg c) := by
  simp only [F_k48, pk_k48, p_pool_in, Option.bind_some, decide_eq_true_eq, sCfg]
  repeat' split
  all_goals first
    | (congr 1; rw [decide_eq_decide]; omega)
    | (congr 1; exact (decide_eq_false (by omega)).symm)

theorem ite_f {P : Prop} [Decidable P] {x : Option Bool} {q : Bool} (h : x = some q) : (if P then some false else x) = some (!decide P && q) := by
  by_cases hp : P <;> simp [hp, h]
theorem ite_t {P : Prop} [Decidable P] {x : Option Bool} {q : Bool} (h : x = some q) : (if P then x else some false) = some (decide P && q) := by
  by_cases hp : P <;> simp [hp, h]

theorem p_r13_Config (c : Config) : F_k8a c = some (sCfg c) := by
  simp only [F_k8a, pk_k8a, sCfg]
  refine (ite_f (ite_f (ite_f (ite_f (ite_f (ite_f (ite_f (ite_f (ite_t (ite_t (ite_t (ite_t (ite_t (ite_t (ite_t rfl))))))))))))))).trans ?_
  congr 1
  rw [Bool.eq_iff_iff]
  simp only [Bool.and_eq_true, Bool.not_eq_true', decide_eq_true_eq, decide_eq_false_iff_not]
  omega

def hsh (a : Int) : Int := IntKind.u64.wrap (bits .xor .u64 14695981039346656037 (IntKind.u64.wrap ((UInt8.ofNat (IntKind.u8.wrap a).toNat).toNat : Int)) * 1099511628211)
def sShd (a n : Int) : Int := if 0 ≤ a ∧ a ≤ 255 ∧ 1 ≤ n ∧ n ≤ 8 then hsh a % n else -1

theorem u64_range (x : Int) : 0 ≤ IntKind.u64.wrap x ∧ IntKind.u64.wrap x < 18446744073709551616 := by
  simp only [IntKind.wrap, IntKind.bits, IntKind.signed]; simp; omega
theorem u64_id {x : Int} (h0 : 0 ≤ x) (h1 : x < 18446744073709551616) : IntKind.u64.wrap x = x := by
  simp only [IntKind.wrap, IntKind.bits, IntKind.signed]; simp; omega
theorem i64_id {x : Int} (h0 : -9223372036854775808 ≤ x) (h1 : x ≤ 9223372036854775807) : IntKind.i64.wrap x = x := by
  simp only [IntKind.wrap, IntKind.bits, IntKind.signed]; simp; omega

theorem one_str (a : Int) : strOfNums [IntKind.u8.wrap a] = mk [UInt8.ofNat (IntKind.u8.wrap a).toNat] := by
  exact strOfNums_cons _ _ (Int.toNat_of_nonneg (by rw [wrap_u8m]; omega)).symm [] [] rfl

theorem p_fnv_Roll (h : Int) (b : UInt8) : F_k0a h (mk [b]) = some (IntKind.u64.wrap (bits .xor .u64 h (IntKind.u64.wrap (b.toNat : Int)) * 1099511628211)) := by
  have w1 : IntKind.i64.wrap (0 + 1) = 1 := by decide
  have g : (mk [b])[(0 : Nat)]? = some b := by rw [mk_get]; rfl
  have key : run (fun s : L_k0a_0 => if s.i < (s.s_.size : Int) then (if 0 ≤ s.i then s.s_[s.i.toNat]?.bind fun a => some (Sum.inl { h := IntKind.u64.wrap (bits BinOp.xor IntKind.u64 s.h (IntKind.u64.wrap (a.toNat : Int)) * 1099511628211), s_ := s.s_, i := IntKind.i64.wrap (s.i + 1) }) else none) else some (Sum.inr s.h)) { h := h, s_ := mk [b], i := 0 } = some (IntKind.u64.wrap (bits .xor .u64 h (IntKind.u64.wrap (b.toNat : Int)) * 1099511628211)) := by
    rw [run_eq]
    simp only [mk_size, List.length_singleton, Int.toNat_zero, g, w1, Option.bind_some, show (0 : Int) < ((1 : Nat) : Int) from by decide, show (0 : Int) ≤ 0 from by decide, if_true]
    rw [run_eq]
    simp [mk_size]
  simp only [F_k0a, pk_k0a]
  exact key

theorem p_r02_Roll (h : Int) (b : UInt8) : F_k5e h (mk [b]) = some (IntKind.u64.wrap (bits .xor .u64 h (IntKind.u64.wrap (b.toNat : Int)) * 1099511628211)) := by
  have w1 : IntKind.i64.wrap (0 + 1) = 1 := by decide
  have g : (mk [b])[(0 : Nat)]? = some b := by rw [mk_get]; rfl
  have key : run (fun s : L_k5e_0 => if s.i < (s.s_.size : Int) then (if 0 ≤ s.i then s.s_[s.i.toNat]?.bind fun a => some (Sum.inl { h := IntKind.u64.wrap (bits BinOp.xor IntKind.u64 s.h (IntKind.u64.wrap (a.toNat : Int)) * 1099511628211), s_ := s.s_, i := IntKind.i64.wrap (s.i + 1) }) else none) else some (Sum.inr (Sum.inl ({ h := s.h, s_ := s.s_, i := s.i } : L_k5e_0) : L_k5e_0 ⊕ Int))) { h := h, s_ := mk [b], i := 0 } = some (Sum.inl { h := IntKind.u64.wrap (bits .xor .u64 h (IntKind.u64.wrap (b.toNat : Int)) * 1099511628211), s_ := mk [b], i := 1 }) := by
    rw [run_eq]
    simp only [mk_size, List.length_singleton, Int.toNat_zero, g, w1, Option.bind_some, show (0 : Int) < ((1 : Nat) : Int) from by decide, show (0 : Int) ≤ 0 from by decide, if_true]
    rw [run_eq]
    simp [mk_size]
  simp only [F_k5e, pk_k5e]
  exact (congrArg (fun x => Option.bind x _) key).trans rfl

theorem shd_fin {a n : Int} (ha : 0 ≤ a ∧ a ≤ 255 ∧ 1 ≤ n ∧ n ≤ 8) : (if IntKind.u64.wrap n = 0 then (none : Option Int) else some (IntKind.i64.wrap ((hsh a).tmod (IntKind.u64.wrap n)))) = some (sShd a n) := by
  have e : IntKind.u64.wrap n = n := u64_id (by omega) (by omega)
  have hh : 0 ≤ hsh a := (u64_range _).1
  rw [e, if_neg (by omega), sShd, if_pos ha, Int.tmod_eq_emod_of_nonneg hh]
  have h1 := Int.emod_nonneg (hsh a) (b := n) (by omega)
  have h2 := Int.emod_lt_of_pos (hsh a) (b := n) (by omega)
  rw [i64_id (by omega) (by omega)]

theorem p_fnv_Shard (a n : Int) : F_k0b a n = some (sShd a n) := by
  simp only [F_k0b, pk_k0b, F_k09, pk_k09, one_str, p_fnv_Roll, Option.bind_some]
  by_cases h : 0 ≤ a ∧ a ≤ 255 ∧ 1 ≤ n ∧ n ≤ 8
  · rw [if_neg (by omega), if_neg (by omega), if_neg (by omega), if_neg (by omega)]
    exact shd_fin h
  · rw [sShd, if_neg h]
    repeat' split
    all_goals first | rfl | omega

theorem p_r02_Shard (a n : Int) : F_k5f a n = some (sShd a n) := by
  simp only [F_k5f, pk_k5f, F_k5d, pk_k5d, one_str, p_r02_Roll, Option.bind_some]
  by_cases h : 0 ≤ a ∧ a ≤ 255 ∧ 1 ≤ n ∧ n ≤ 8
  · rw [if_neg (by omega), if_neg (by omega), if_neg (by omega), if_neg (by omega)]
    exact shd_fin h
  · rw [sShd, if_neg h]
    repeat' split
    all_goals first | rfl | omega

theorem shd_range (a n : Int) : -1 ≤ sShd a n ∧ (1 ≤ n → sShd a n < n) := by
  unfold sShd
  split
  · have h1 := Int.emod_nonneg (hsh a) (b := n) (by omega)
    have h2 := Int.emod_lt_of_pos (hsh a) (b := n) (by omega)
    omega
  · omega

def sFree (t : List Int) (i : Int) : Bool := decide (0 ≤ i) && decide (t[i.toNat]? = some 0)
theorem p_lock_is (t : List Int) (i : Int) : F_k39 t i = some (decide (0 ≤ i ∧ i < t.length)) := by
  simp only [F_k39, pk_k39]
  split
  · congr 1; rw [decide_eq_decide]; omega
  · congr 1; exact (decide_eq_false (by omega)).symm
theorem p_lock_Free (t : List Int) (i : Int) : F_k35 t i = some (sFree t i) := by
  simp only [F_k35, pk_k35, p_lock_is, Option.bind_some, decide_eq_true_eq, sFree]
  split
  · rename_i h
    rw [if_pos h.1]
    have hl : i.toNat < t.length := by omega
    rw [List.getElem?_eq_getElem hl]
    simp [h.1]
  · rename_i h
    by_cases h0 : 0 ≤ i
    · rw [List.getElem?_eq_none (by omega)]; simp
    · simp [h0]

theorem p_Clone_Table (l : List Int) (hl : l.length ≤ 1000000) : F_kb2 l = some l := by
  simp only [F_kb2, pk_kb2]
  have h8 : l.length * 8 ≤ 140737488355328 := by omega
  cases l with
  | nil => simp [wboth]
  | cons x l => rw [if_neg (List.cons_ne_nil _ _), if_pos h8, if_neg (List.cons_ne_nil _ _)]

theorem p_lock_set (t : List Int) (i : Nat) (v : Int) (hi : i < t.length) (hl : t.length ≤ 1000000) : F_k3a t i v = some (t.set i v) := by
  simp only [F_k3a, pk_k3a, p_Clone_Table t hl, Option.bind_some]
  have h1 : (0 : Int) ≤ (i : Int) ∧ (i : Int) < (t.length : Int) := by omega
  have h2 : ((i : Nat) : Int).toNat = i := by omega
  rw [if_pos h1, h2, List.getElem?_eq_getElem hi]
  simp only [Option.bind_some, hi, if_true]

theorem p_lock_Take (t : List Int) (i : Nat) (v : Int) (hi : t[i]? = some 0) (hl : t.length ≤ 1000000) (hv : 1 ≤ v) : F_k38 t i v = some (t.set i v, 0) := by
  have hlt := (List.getElem?_eq_some_iff.1 hi).1
  have e1 : decide ((0 : Int) ≤ (i : Int) ∧ (i : Int) < (t.length : Int)) = true := decide_eq_true (by omega)
  have e2 : sFree t (i : Int) = true := by unfold sFree; simp [hi]
  simp only [F_k38, pk_k38, p_lock_is, p_lock_Free, Option.bind_some, p_lock_set t i v hlt hl, e1, e2, Bool.true_eq_false, if_false]
  rw [if_neg (by omega)]

theorem p_lock_Give (t : List Int) (i : Nat) (v : Int) (hi : t[i]? = some v) (hl : t.length ≤ 1000000) (hv : 1 ≤ v) : F_k36 t i v = some (t.set i 0, 0) := by
  have hlt := (List.getElem?_eq_some_iff.1 hi).1
  have e1 : decide ((0 : Int) ≤ (i : Int) ∧ (i : Int) < (t.length : Int)) = true := decide_eq_true (by omega)
  have e3 : ((i : Nat) : Int).toNat = i := by omega
  simp only [F_k36, pk_k36, p_lock_is, Option.bind_some, p_lock_set t i 0 hlt hl, e1, e3, hi, Bool.true_eq_false, if_false, if_true]
  rw [if_neg (by omega), if_pos (by omega)]

def sAdj (p : Pot) (d : Int) : Pot × Int :=
  if ¬ (1 ≤ p.most ∧ p.most ≤ 1000 ∧ 0 ≤ p.taken ∧ p.taken ≤ p.most) ∨ d < -p.taken then (p, 1)
  else if p.most - p.taken < d then (p, 6) else (⟨p.taken + d, p.most⟩, 0)

theorem p_pot_may (p : Pot) : F_k4f p = some (decide (1 ≤ p.most ∧ p.most ≤ 1000 ∧ 0 ≤ p.taken ∧ p.taken ≤ p.most)) := by
  simp only [F_k4f, pk_k4f]
  repeat' split
  all_goals first
    | (congr 1; rw [decide_eq_decide]; omega)
    | (congr 1; exact (decide_eq_false (by omega)).symm)

theorem p_pot_Adjust (p : Pot) (d : Int) (hd : -1000000 ≤ d ∧ d ≤ 1000000) : F_k4d p d = some (sAdj p d) := by
  simp only [F_k4d, pk_k4d, p_pot_may, Option.bind_some]
  by_cases h : 1 ≤ p.most ∧ p.most ≤ 1000 ∧ 0 ≤ p.taken ∧ p.taken ≤ p.most
  · rw [decide_eq_true h, if_neg (by simp)]
    have e0 : IntKind.i64.wrap (-p.taken) = -p.taken := i64_id (by omega) (by omega)
    have e1 : IntKind.i64.wrap (p.taken + d) = p.taken + d := i64_id (by omega) (by omega)
    have e2 : IntKind.i64.wrap (p.most - p.taken) = p.most - p.taken := i64_id (by omega) (by omega)
    simp only [F_ka4, pk_ka4, e0, e1, e2, sAdj]
    by_cases h1 : d < -p.taken
    · rw [if_pos h1, if_pos (.inr h1)]
    · rw [if_neg h1, if_neg (show ¬ (¬ (1 ≤ p.most ∧ p.most ≤ 1000 ∧ 0 ≤ p.taken ∧ p.taken ≤ p.most) ∨ d < -p.taken) from fun hh => hh.elim (fun q => q h) h1)]
      by_cases h2 : d < 0
      · rw [if_pos h2, if_neg (by omega)]
      · rw [if_neg h2, if_neg (by omega), if_neg h2, if_neg (by omega)]
        by_cases h3 : p.most - p.taken < d
        · rw [if_pos h3, if_pos h3]; simp
        · rw [if_neg h3, if_neg h3]; simp
  · rw [decide_eq_false h, if_pos rfl, sAdj, if_pos (.inl h)]

theorem p_shard_empty (a : Acc) : F_kaf a = some (decide (a.base = 0 ∧ a.txs = [])) := by
  simp only [F_kaf, pk_kaf]
  split
  · rename_i h; simp [h]
  · rename_i h; simp [h]
theorem p_r11_empty (a : Acc) : F_k83 a = some (decide (a.base = 0 ∧ a.txs = [])) := by
  simp only [F_k83, pk_k83]
  split
  · rename_i h; simp [h]
  · rename_i h; simp [h]

end Go.Vm

/- Layers 11 and 16, plain: what a step of a task comes to, and what it keeps. -/
set_option linter.unusedVariables false
set_option linter.unusedSimpArgs false
namespace Go.Vm
open Go Go.RowKit

def emp (a : Acc) : Bool := decide (a.base = 0 ∧ a.txs = [])
def zShd : Shard := ⟨[], 0⟩
def sAccs (per n k : Int) : Int → List Acc → Bool
  | _, [] => true
  | last, a :: l => (sAcc a per && !emp a && decide (last < a.sender) && decide (sShd a.sender n = k)) && sAccs per n k a.sender l
def sChkS (c : Config) (k : Int) (s : Shard) : Bool := decide (0 ≤ s.version ∧ s.version ≤ 1099511627776) && sAccs c.per c.shards k (-1) s.accounts

def sInsA (a : Acc) : List Acc → List Acc
  | [] => [a]
  | x :: l => if a.sender < x.sender then a :: x :: l else x :: sInsA a l
def sDelA (l : List Acc) (n : Int) : List Acc := l.filter fun x => !decide (x.sender = n)
def sSetL (l : List Acc) (a : Acc) : List Acc := if emp a = true then sDelA l a.sender else sInsA a (sDelA l a.sender)
def sSet (s : Shard) (a : Acc) : Shard := ⟨sSetL s.accounts a, if s.version < 0 ∨ 1099511627776 ≤ s.version then 0 else s.version + 1⟩

theorem accs_cons {per n k last : Int} {a : Acc} {l : List Acc} : sAccs per n k last (a :: l) = true ↔ (sAcc a per = true ∧ emp a = false ∧ last < a.sender ∧ sShd a.sender n = k) ∧ sAccs per n k a.sender l = true := by
  simp [sAccs, and_assoc]

theorem accs_mono {per n k : Int} : ∀ {l : List Acc} {last last' : Int}, last' ≤ last → sAccs per n k last l = true → sAccs per n k last' l = true
  | [], _, _, _, _ => rfl
  | a :: l, last, last', h, hl => by
    rw [accs_cons] at hl ⊢
    exact ⟨⟨hl.1.1, hl.1.2.1, by have := hl.1.2.2.1; omega, hl.1.2.2.2⟩, hl.2⟩

theorem accs_filter {per n k : Int} (p : Acc → Bool) : ∀ {l : List Acc} {last : Int}, sAccs per n k last l = true → sAccs per n k last (l.filter p) = true
  | [], _, _ => rfl
  | a :: l, last, hl => by
    rw [accs_cons] at hl
    rw [List.filter_cons]
    split
    · exact accs_cons.2 ⟨hl.1, accs_filter p hl.2⟩
    · exact accs_mono (by have := hl.1.2.2.1; omega) (accs_filter p hl.2)

theorem accs_ins {per n k : Int} {a : Acc} (ha : sAcc a per = true) (he : emp a = false) (hs : sShd a.sender n = k) : ∀ {l : List Acc} {last : Int}, last < a.sender → (∀ x ∈ l, x.sender ≠ a.sender) → sAccs per n k last l = true → sAccs per n k last (sInsA a l) = true
  | [], last, h1, _, _ => accs_cons.2 ⟨⟨ha, he, h1, hs⟩, rfl⟩
  | x :: l, last, h1, h2, hl => by
    rw [accs_cons] at hl
    unfold sInsA
    split
    · rename_i h
      exact accs_cons.2 ⟨⟨ha, he, h1, hs⟩, accs_cons.2 ⟨⟨hl.1.1, hl.1.2.1, h, hl.1.2.2.2⟩, hl.2⟩⟩
    · rename_i h
      have := h2 x (List.mem_cons_self)
      exact accs_cons.2 ⟨hl.1, accs_ins ha he hs (by omega) (fun y hy => h2 y (List.mem_cons_of_mem _ hy)) hl.2⟩

theorem accs_set {per n k last : Int} {a : Acc} {l : List Acc} (hl : sAccs per n k last l = true) (ha : sAcc a per = true) (hs : sShd a.sender n = k) (h1 : last < a.sender) : sAccs per n k last (sSetL l a) = true := by
  unfold sSetL
  have hd : sAccs per n k last (sDelA l a.sender) = true := accs_filter _ hl
  split
  · exact hd
  · rename_i he
    refine accs_ins ha (by simpa using he) hs h1 (fun x hx => ?_) hd
    have := (List.mem_filter.1 hx).2
    simpa using this

theorem chkS_set {c : Config} {k : Int} {s : Shard} {a : Acc} (h : sChkS c k s = true) (ha : sAcc a c.per = true) (hs : sShd a.sender c.shards = k) : sChkS c k (sSet s a) = true := by
  simp only [sChkS, Bool.and_eq_true, decide_eq_true_eq] at h ⊢
  refine ⟨?_, accs_set h.2 ha hs (by have := (sAcc_spec.1 ha).1; omega)⟩
  simp only [sSet]
  split
  · omega
  · omega

theorem accs_len {per n k : Int} : ∀ {l : List Acc} {last : Int}, sAccs per n k last l = true → last ≤ 255 → (l.length : Int) ≤ 255 - last
  | [], last, _, h => by simp; omega
  | a :: l, last, hl, h => by
    rw [accs_cons] at hl
    have hb := (sAcc_spec.1 hl.1.1).1
    have := accs_len hl.2 (by omega)
    have := hl.1.2.2.1
    simp only [List.length_cons]
    omega

theorem accs_mem {per n k : Int} : ∀ {l : List Acc} {last : Int}, sAccs per n k last l = true → ∀ a ∈ l, sAcc a per = true ∧ emp a = false ∧ sShd a.sender n = k
  | [], _, _, a, h => by cases h
  | x :: l, last, hl, a, h => by
    rw [accs_cons] at hl
    rcases List.mem_cons.1 h with rfl | h
    · exact ⟨hl.1.1, hl.1.2.1, hl.1.2.2.2⟩
    · exact accs_mem hl.2 a h

theorem getA_acc {per n k last : Int} {l : List Acc} (hl : sAccs per n k last l = true) {s : Int} (h0 : 0 ≤ s) (h1 : s ≤ 255) (hp : 1 ≤ per ∧ per ≤ 16) : sAcc (sGetA l s) per = true ∧ (sGetA l s).sender = s := by
  unfold sGetA
  cases hf : l.find? (fun a => decide (a.sender = s)) with
  | none =>
    refine ⟨sAcc_spec.2 ⟨by simp; omega, rfl⟩, rfl⟩
  | some a =>
    exact ⟨(accs_mem hl a (List.mem_of_find?_eq_some hf)).1, by simpa using List.find?_some hf⟩

def allI {α : Type} (p : Nat → α → Bool) : Nat → List α → Bool
  | _, [] => true
  | i, a :: l => p i a && allI p (i + 1) l
theorem allI_iff {α : Type} {p : Nat → α → Bool} : ∀ {l : List α} {i : Nat}, allI p i l = true ↔ ∀ (j : Nat) a, l[j]? = some a → p (i + j) a = true
  | [], i => by simp [allI]
  | x :: l, i => by
    simp only [allI, Bool.and_eq_true, allI_iff (l := l)]
    constructor
    · rintro ⟨h1, h2⟩ j a h
      cases j with
      | zero => simp at h; subst h; exact h1
      | succ j =>
        have := h2 j a (by simpa using h)
        rwa [show i + 1 + j = i + (j + 1) from by omega] at this
    · intro h
      refine ⟨h 0 x rfl, fun j a hj => ?_⟩
      rw [show i + 1 + j = i + (j + 1) from by omega]
      exact h (j + 1) a (by simpa using hj)

def sMay (x : Sight) : Bool :=
  sCfg x.config && decide ((x.locks.length : Int) = x.config.shards ∧ (x.shards.length : Int) = x.config.shards ∧ x.pot.most = x.config.hard ∧ 0 ≤ x.pot.taken ∧ x.pot.taken ≤ x.config.hard)
    && allI (fun i s => decide (0 ≤ (x.locks[i]?).getD 0) && sChkS x.config i s) 0 x.shards

theorem sCfg_spec {c : Config} : sCfg c = true ↔ (1 ≤ c.shards ∧ c.shards ≤ 8 ∧ 0 ≤ c.soft ∧ c.soft ≤ c.hard ∧ 1 ≤ c.hard ∧ c.hard ≤ 1000 ∧ 1 ≤ c.per ∧ c.per ≤ 16 ∧ 0 ≤ c.bump ∧ c.bump ≤ 100 ∧ 1 ≤ c.feed ∧ c.feed ≤ 16 ∧ 1 ≤ c.workers ∧ c.workers ≤ 4 ∧ 1 ≤ c.room ∧ c.room ≤ 8) := by
  unfold sCfg; rw [decide_eq_true_eq]

structure MayS (x : Sight) : Prop where
  cfg : sCfg x.config = true
  llen : (x.locks.length : Int) = x.config.shards
  slen : (x.shards.length : Int) = x.config.shards
  most : x.pot.most = x.config.hard
  tk0 : 0 ≤ x.pot.taken
  tk1 : x.pot.taken ≤ x.config.hard
  lk : ∀ (i : Nat) v, x.locks[i]? = some v → 0 ≤ v
  sh : ∀ (i : Nat) s, x.shards[i]? = some s → sChkS x.config i s = true

theorem may_spec {x : Sight} : sMay x = true ↔ MayS x := by
  simp only [sMay, Bool.and_eq_true, decide_eq_true_eq, allI_iff, Nat.zero_add]
  constructor
  · rintro ⟨⟨h1, h2, h3, h4, h5, h6⟩, h7⟩
    refine ⟨h1, h2, h3, h4, h5, h6, fun i v hv => ?_, fun i s hs => (h7 i s hs).2⟩
    have hi := (List.getElem?_eq_some_iff.1 hv).1
    have hl : i < x.shards.length := by omega
    have := (h7 i _ (List.getElem?_eq_getElem hl)).1
    rwa [hv] at this
  · rintro ⟨h1, h2, h3, h4, h5, h6, h7, h8⟩
    refine ⟨⟨h1, h2, h3, h4, h5, h6⟩, fun i s hs => ⟨?_, h8 i s hs⟩⟩
    have hi := (List.getElem?_eq_some_iff.1 hs).1
    have hl : i < x.locks.length := by omega
    have := h7 i _ (List.getElem?_eq_getElem hl)
    rwa [List.getElem?_eq_getElem hl]

def sEnd (t : Task) (r : Result) (ph : Int) : Task := { t with phase := ph, result := r, point := true }
def sK (t : Task) (x : Sight) : Int := sShd t.sender x.config.shards
def sAble (t : Task) (who : Int) (x : Sight) : Bool :=
  if who < 1 ∨ t.phase < 0 ∨ 5 < t.phase ∨ sMay x = false then false
  else if t.phase = 0 then true
  else if t.phase = 1 then sFree x.locks (sK t x)
  else decide (0 ≤ sK t x) && decide (x.locks[(sK t x).toNat]? = some who)
def sShard (t : Task) (x : Sight) : Shard := (x.shards[(sK t x).toNat]?).getD zShd
def sSee (t : Task) (x : Sight) : Plan := sLook x.config (sGetA (sShard t x).accounts t.sender) t.op.kind t.op.nonce (L t.op.data)

def sStep (t : Task) (who : Int) (x : Sight) : Task × Sight × List Event × Bool :=
  if sAble t who x = false then (t, x, [], false)
  else if t.phase = 0 then
    if (sWhose t.op.kind t.op.sender (L t.op.data)).2 = true then ({ t with sender := (sWhose t.op.kind t.op.sender (L t.op.data)).1, phase := 1 }, x, [], false)
    else (sEnd t (sLook x.config ⟨-1, 0, []⟩ t.op.kind t.op.nonce (L t.op.data)).result 6, x, [], true)
  else if t.phase = 1 then ({ t with phase := 2 }, { x with locks := x.locks.set (sK t x).toNat who }, [], false)
  else if t.phase = 2 then
    if (sSee t x).changes = true then ({ t with plan := sSee t x, phase := 3 }, x, [], false)
    else (sEnd { t with plan := sSee t x } (sSee t x).result 5, x, [], true)
  else if t.phase = 3 then
    if (sAdj x.pot t.plan.delta).2 = 0 then (sEnd t t.plan.result 4, { x with pot := (sAdj x.pot t.plan.delta).1 }, t.plan.events, true)
    else (sEnd t (sFull t.plan) 5, x, [], true)
  else if t.phase = 4 then ({ t with phase := 5 }, { x with shards := x.shards.set (sK t x).toNat (sSet (sShard t x) t.plan.after) }, [], false)
  else ({ t with phase := 6 }, { x with locks := x.locks.set (sK t x).toNat 0 }, [], false)

structure TInv (o : Op) (t : Task) (x : Sight) : Prop where
  op : t.op = o
  may : MayS x
  ph0 : 0 ≤ t.phase
  ph1 : t.phase ≤ 6
  pt : t.point = decide (4 ≤ t.phase)
  snd : 1 ≤ t.phase → t.phase ≤ 5 → 0 ≤ t.sender ∧ t.sender ≤ 255
  plan : t.phase = 3 ∨ t.phase = 4 → sAcc t.plan.after x.config.per = true ∧ t.plan.after.sender = t.sender ∧ -1000 ≤ t.plan.delta ∧ t.plan.delta ≤ 1000
  fewA : t.plan.after.txs.length ≤ 1000
  fewE : t.plan.events.length ≤ 1000
  fewP : t.plan.result.txs.length ≤ 1000
  fewR : t.result.txs.length ≤ 1000

theorem whose_range {k s : Int} {l : List UInt8} (h : (sWhose k s l).2 = true) : 0 ≤ (sWhose k s l).1 ∧ (sWhose k s l).1 ≤ 255 := by
  unfold sWhose at h ⊢
  split at h
  · rename_i hk
    rw [if_pos hk]
    cases hd : sDec l with
    | none => simp [decR, zTx]
    | some t =>
      have := sTx_spec (sDec_ok hd)
      simp only [decR]
      omega
  · rename_i hk
    rw [if_neg hk]
    split at h
    · cases h
    · rename_i hk2
      rw [if_neg hk2]
      simp only
      omega

theorem able_spec {t : Task} {who : Int} {x : Sight} (h : sAble t who x = true) : 1 ≤ who ∧ 0 ≤ t.phase ∧ t.phase ≤ 5 ∧ MayS x ∧ (t.phase = 1 → sFree x.locks (sK t x) = true) ∧ (2 ≤ t.phase → 0 ≤ sK t x ∧ x.locks[(sK t x).toNat]? = some who) := by
  unfold sAble at h
  split at h
  · cases h
  rename_i h1
  simp only [not_or] at h1
  have hm : MayS x := may_spec.1 (by have := h1.2.2.2; simpa using this)
  refine ⟨by omega, by omega, by omega, hm, fun hp => ?_, fun hp => ?_⟩
  · rw [if_neg (by omega), if_pos hp] at h; exact h
  · rw [if_neg (by omega), if_neg (by omega)] at h
    simpa using h

theorem free_spec {l : List Int} {k : Int} (h : sFree l k = true) : 0 ≤ k ∧ l[k.toNat]? = some 0 := by
  simpa [sFree] using h

theorem may_lock {x : Sight} (h : MayS x) (k : Nat) (v : Int) (hv : 0 ≤ v) : MayS { x with locks := x.locks.set k v } := by
  refine ⟨h.cfg, by simpa using h.llen, h.slen, h.most, h.tk0, h.tk1, fun i w hw => ?_, h.sh⟩
  simp only [List.getElem?_set] at hw
  split at hw
  · split at hw
    · injection hw with hw; omega
    · cases hw
  · exact h.lk i w hw

theorem may_shards {x : Sight} (h : MayS x) (k : Nat) (s : Shard) (hs : k < x.shards.length → sChkS x.config k s = true) : MayS { x with shards := x.shards.set k s } := by
  refine ⟨h.cfg, h.llen, by simpa using h.slen, h.most, h.tk0, h.tk1, h.lk, fun i w hw => ?_⟩
  simp only [List.getElem?_set] at hw
  split at hw
  · rename_i e
    subst e
    split at hw
    · rename_i hk; injection hw with hw; subst hw; exact hs hk
    · cases hw
  · exact h.sh i w hw

theorem may_pot {x : Sight} (h : MayS x) (d : Int) (hd : (sAdj x.pot d).2 = 0) : MayS { x with pot := (sAdj x.pot d).1 } := by
  have h1 := h.most; have h2 := h.tk0; have h3 := h.tk1
  unfold sAdj at hd ⊢
  split at hd
  · simp at hd
  rename_i g1
  split at hd
  · simp at hd
  rename_i g2
  rw [if_neg g1, if_neg g2]
  refine ⟨h.cfg, h.llen, h.slen, h1, ?_, ?_, h.lk, h.sh⟩
  · simp only; omega
  · simp only; omega

theorem len_of {α : Type} {l : List α} {i : Nat} {x : α} (h : l[i]? = some x) : i < l.length := (List.getElem?_eq_some_iff.1 h).1

theorem see_few {o : Op} {t : Task} {x : Sight} {who : Int} (h : TInv o t x) (ha : sAble t who x = true) (hp : t.phase = 2) :
    sAcc (sGetA (sShard t x).accounts t.sender) x.config.per = true ∧ (sGetA (sShard t x).accounts t.sender).sender = t.sender := by
  obtain ⟨_, _, _, hm, _, hk⟩ := able_spec ha
  obtain ⟨hk0, hkl⟩ := hk (by omega)
  have hlen := len_of hkl
  have hs : (sK t x).toNat < x.shards.length := by have := hm.llen; have := hm.slen; omega
  have hc := hm.sh _ _ (List.getElem?_eq_getElem hs)
  have hsn := h.snd (by omega) (by omega)
  have hcf := sCfg_spec.1 hm.cfg
  have e : sShard t x = x.shards[(sK t x).toNat] := by unfold sShard; rw [List.getElem?_eq_getElem hs]; rfl
  rw [e]
  simp only [sChkS, Bool.and_eq_true] at hc
  exact getA_acc hc.2 hsn.1 hsn.2 (by omega)

theorem err_of_changes {c : Config} {a : Acc} {k n : Int} {l : List UInt8} (h : (sLook c a k n l).changes = true) : (sLook c a k n l).result.err = 0 := by
  by_cases he : (sLook c a k n l).result.err = 0
  · exact he
  · obtain ⟨e, hw⟩ := wrong_err he
    rw [hw] at h
    simp [wrong] at h

structure Stp (t : Task) (who : Int) (x : Sight) (r : Task × Sight × List Event × Bool) : Prop where
  cfg : r.2.1.config = x.config
  once : r.2.2.2 = true → t.point = false
  evs : r.2.2.1.length ≠ 0 → r.2.2.2 = true
  pt : r.1.point = (t.point || r.2.2.2)
  res : t.point = true → r.1.result = t.result
  ahead : r.1.point = false → r.2.1.pot = x.pot ∧ r.2.1.shards = x.shards
  locks : ∀ (k : Nat) v w, x.locks[k]? = some v → r.2.1.locks[k]? = some w → w = v ∨ (v = who ∧ w = 0) ∨ (v = 0 ∧ w = who)
  shards : ∀ (k : Nat), r.2.1.shards[k]? ≠ x.shards[k]? → x.locks[k]? = some who
  llen : r.2.1.locks.length = x.locks.length
  slen : r.2.1.shards.length = x.shards.length
  still : sAble t who x = false → r = (t, x, [], false)

theorem stp_same {t u : Task} {who : Int} {x : Sight} (hp : u.point = t.point) (hr : t.point = true → u.result = t.result) (ha : sAble t who x = false → u = t) : Stp t who x (u, x, [], false) :=
  ⟨rfl, by simp, by simp, by simp [hp], hr, fun _ => ⟨rfl, rfl⟩, fun k v w h1 h2 => .inl (by simp only [h1] at h2; injection h2 with h2; exact h2.symm), fun k h => absurd rfl h, rfl, rfl, fun h => by rw [ha h]⟩

theorem stp_end {t u : Task} {who : Int} {x : Sight} (hp : t.point = false) (hu : u.point = true) (ha : sAble t who x = true) : Stp t who x (u, x, [], true) :=
  ⟨rfl, fun _ => hp, by simp, by simp [hp, hu], by simp [hp], fun h => by simp [hu] at h, fun k v w h1 h2 => .inl (by simp only [h1] at h2; injection h2 with h2; exact h2.symm), fun k h => absurd rfl h, rfl, rfl, fun h => by rw [ha] at h; cases h⟩

theorem step_all {o : Op} {t : Task} {who : Int} {x : Sight} (h : TInv o t x) (hw : 1 ≤ who) : TInv o (sStep t who x).1 (sStep t who x).2.1 ∧ Stp t who x (sStep t who x) := by
  unfold sStep
  cases ha : sAble t who x with
  | false => rw [if_pos rfl]; exact ⟨h, stp_same rfl (fun _ => rfl) fun _ => rfl⟩
  | true =>
  rw [if_neg (by simp)]
  obtain ⟨_, hp0, hp5, hm, hfr, hk⟩ := able_spec ha
  have hpt := h.pt
  split
  · rename_i h0
    have hpf : t.point = false := by rw [hpt]; exact decide_eq_false (by omega)
    split
    · rename_i hwh
      refine ⟨⟨h.op, hm, by simp, by simp, by simp [hpf], fun _ _ => whose_range hwh, by simp, h.fewA, h.fewE, h.fewP, h.fewR⟩, stp_same rfl (fun _ => rfl) (by rw [ha]; simp)⟩
    · have hl := sLook_len x.config ⟨-1, 0, []⟩ t.op.kind t.op.nonce (L t.op.data)
      refine ⟨⟨h.op, hm, by simp [sEnd], by simp [sEnd], by simp [sEnd], by simp [sEnd], by simp [sEnd], h.fewA, h.fewE, h.fewP, ?_⟩, stp_end hpf rfl ha⟩
      have := hl.2.2
      simp only [List.length_nil, sEnd] at this ⊢
      omega
  · rename_i h0
    split
    · rename_i h1
      have hpf : t.point = false := by rw [hpt]; exact decide_eq_false (by omega)
      obtain ⟨hk0, hkl⟩ := free_spec (hfr h1)
      refine ⟨⟨h.op, may_lock hm _ _ (by omega), by simp, by simp, by simp [hpf], fun _ _ => h.snd (by omega) (by omega), by simp, h.fewA, h.fewE, h.fewP, h.fewR⟩, ?_⟩
      refine ⟨rfl, by simp, by simp, by simp, fun _ => rfl, fun _ => ⟨rfl, rfl⟩, fun k v w g1 g2 => ?_, fun k g => absurd rfl g, by simp, rfl, by rw [ha]; simp⟩
      simp only [List.getElem?_set] at g2
      split at g2
      · rename_i e
        subst e
        rw [hkl] at g1
        injection g1 with g1
        split at g2
        · injection g2 with g2; exact .inr (.inr ⟨g1.symm, g2.symm⟩)
        · cases g2
      · rw [g1] at g2; injection g2 with g2; exact .inl g2.symm
    · rename_i h1
      obtain ⟨hk0, hkl⟩ := hk (by omega)
      have hkn := len_of hkl
      split
      · rename_i h2
        have hpf : t.point = false := by rw [hpt]; exact decide_eq_false (by omega)
        have hl := sLook_len x.config (sGetA (sShard t x).accounts t.sender) t.op.kind t.op.nonce (L t.op.data)
        obtain ⟨hacc, hsn⟩ := see_few h ha h2
        have hcf := sCfg_spec.1 hm.cfg
        have hfew : (sGetA (sShard t x).accounts t.sender).txs.length ≤ 16 := by have := (sAcc_spec.1 hacc).1; omega
        obtain ⟨l1, l2, l3⟩ := hl
        split
        · rename_i hch
          obtain ⟨g1, g2, g3, g4⟩ := plan_may hacc (err_of_changes hch) hch
          have r1 := sQ_range (sSee t x).after.txs
          have r2 := sQ_range (sGetA (sShard t x).accounts t.sender).txs
          refine ⟨⟨h.op, hm, by simp, by simp, by simp [hpf], fun _ _ => h.snd (by omega) (by omega), fun _ => ⟨g1, g3.trans hsn, ?_, ?_⟩, ?_, ?_, ?_, h.fewR⟩, stp_same rfl (fun _ => rfl) (by rw [ha]; simp)⟩
          · show -1000 ≤ (sSee t x).delta
            unfold sSee at r1 ⊢; rw [g2]; omega
          · show (sSee t x).delta ≤ 1000
            unfold sSee at r1 ⊢; rw [g2]; omega
          · exact Nat.le_trans l1 (by omega)
          · exact Nat.le_trans l2 (by omega)
          · exact Nat.le_trans l3 (by omega)
        · refine ⟨⟨h.op, hm, by simp [sEnd], by simp [sEnd], by simp [sEnd], fun _ _ => h.snd (by omega) (by omega), by simp [sEnd], ?_, ?_, ?_, ?_⟩, stp_end hpf rfl ha⟩
          · exact Nat.le_trans l1 (by omega)
          · exact Nat.le_trans l2 (by omega)
          · exact Nat.le_trans l3 (by omega)
          · exact Nat.le_trans l3 (by omega)
      · rename_i h2
        split
        · rename_i h3
          have hpf : t.point = false := by rw [hpt]; exact decide_eq_false (by omega)
          split
          · rename_i hz
            refine ⟨⟨h.op, may_pot hm _ hz, by simp [sEnd], by simp [sEnd], by simp [sEnd], fun _ _ => h.snd (by omega) (by omega), fun _ => h.plan (.inl h3), h.fewA, h.fewE, h.fewP, h.fewP⟩, ?_⟩
            exact ⟨rfl, fun _ => hpf, fun _ => rfl, by simp [hpf, sEnd], by simp [hpf], by simp [sEnd], fun k v w g1 g2 => .inl (by simp only [g1] at g2; injection g2 with g2; exact g2.symm), fun k g => absurd rfl g, rfl, rfl, by rw [ha]; simp⟩
          · refine ⟨⟨h.op, hm, by simp [sEnd], by simp [sEnd], by simp [sEnd], fun _ _ => h.snd (by omega) (by omega), by simp [sEnd], h.fewA, h.fewE, h.fewP, ?_⟩, stp_end hpf rfl ha⟩
            simp only [sEnd, sFull]
            split
            · simp
            · exact h.fewP
        · rename_i h3
          split
          · rename_i h4
            have hpf : t.point = true := by rw [hpt]; exact decide_eq_true (by omega)
            obtain ⟨g1, g2, _, _⟩ := h.plan (.inr h4)
            have hs : (sK t x).toNat < x.shards.length := by have := hm.llen; have := hm.slen; omega
            have hc := hm.sh _ _ (List.getElem?_eq_getElem hs)
            have e : sShard t x = x.shards[(sK t x).toNat] := by unfold sShard; rw [List.getElem?_eq_getElem hs]; rfl
            have hkk : (((sK t x).toNat : Nat) : Int) = sK t x := by omega
            refine ⟨⟨h.op, may_shards hm _ _ fun _ => ?_, by simp, by simp, by simp [hpf], fun _ _ => h.snd (by omega) (by omega), by simp, h.fewA, h.fewE, h.fewP, h.fewR⟩, ?_⟩
            · rw [e]
              refine chkS_set hc g1 ?_
              rw [g2, hkk]; rfl
            · refine ⟨rfl, by simp, by simp, by simp, fun _ => rfl, by simp [hpf], fun k v w g1 g2 => .inl (by simp only [g1] at g2; injection g2 with g2; exact g2.symm), fun k g => ?_, rfl, by simp, by rw [ha]; simp⟩
              simp only [List.getElem?_set] at g
              by_cases ek : (sK t x).toNat = k
              · rw [← ek]; exact hkl
              · rw [if_neg ek] at g; exact absurd rfl g
          · rename_i h4
            have hpf : t.point = true := by rw [hpt]; exact decide_eq_true (by omega)
            refine ⟨⟨h.op, may_lock hm _ _ (by omega), by simp, by simp, by simp [hpf], by simp, by simp, h.fewA, h.fewE, h.fewP, h.fewR⟩, ?_⟩
            refine ⟨rfl, by simp, by simp, by simp, fun _ => rfl, by simp [hpf], fun k v w g1 g2 => ?_, fun k g => absurd rfl g, by simp, rfl, by rw [ha]; simp⟩
            simp only [List.getElem?_set] at g2
            split at g2
            · rename_i e
              subst e
              rw [hkl] at g1
              injection g1 with g1
              injection g2 with g2
              exact .inr (.inl ⟨g1.symm, g2.symm⟩)
            · rw [g1] at g2; injection g2 with g2; exact .inl g2.symm

end Go.Vm

/- Layers 11 and 13, plain: accounts of all shards in one row; what the pool does with a row. -/
set_option linter.unusedVariables false
set_option linter.unusedSimpArgs false
namespace Go.Vm
open Go Go.RowKit

abbrev Rise (l : List Acc) : Prop := l.Pairwise fun a b => a.sender < b.sender
theorem rise_cons {a : Acc} {l : List Acc} : Rise (a :: l) ↔ (∀ x ∈ l, a.sender < x.sender) ∧ Rise l := List.pairwise_cons

theorem rise_accs {per n k : Int} : ∀ {l : List Acc} {last : Int}, sAccs per n k last l = true → Rise l ∧ ∀ a ∈ l, last < a.sender
  | [], _, _ => ⟨List.Pairwise.nil, by simp⟩
  | a :: l, last, h => by
    rw [accs_cons] at h
    obtain ⟨h1, h2⟩ := rise_accs h.2
    refine ⟨List.Pairwise.cons h2 h1, fun x hx => ?_⟩
    rcases List.mem_cons.1 hx with rfl | hx
    · exact h.1.2.2.1
    · have := h2 x hx; have := h.1.2.2.1; omega

theorem accs_rise {per n k : Int} : ∀ {l : List Acc} {last : Int}, Rise l → (∀ a ∈ l, last < a.sender ∧ sAcc a per = true ∧ emp a = false ∧ sShd a.sender n = k) → sAccs per n k last l = true
  | [], _, _, _ => rfl
  | a :: l, last, h, hl => by
    rw [rise_cons] at h
    obtain ⟨h1, h2, h3, h4⟩ := hl a (List.mem_cons_self)
    exact accs_cons.2 ⟨⟨h2, h3, h1, h4⟩, accs_rise h.2 fun x hx => ⟨h.1 x hx, (hl x (List.mem_cons_of_mem _ hx)).2⟩⟩

theorem rise_ext : ∀ {l m : List Acc}, Rise l → Rise m → (∀ a, a ∈ l ↔ a ∈ m) → l = m
  | [], [], _, _, _ => rfl
  | [], b :: m, _, _, h => absurd ((h b).2 List.mem_cons_self) (by simp)
  | a :: l, [], _, _, h => absurd ((h a).1 List.mem_cons_self) (by simp)
  | a :: l, b :: m, hl, hm, h => by
    rw [rise_cons] at hl hm
    have e : a = b := by
      rcases List.mem_cons.1 ((h a).1 List.mem_cons_self) with e | h1
      · exact e
      rcases List.mem_cons.1 ((h b).2 List.mem_cons_self) with e | h2
      · exact e.symm
      have := hl.1 b h2; have := hm.1 a h1; omega
    subst e
    refine congrArg _ (rise_ext hl.2 hm.2 fun x => ?_)
    constructor
    · intro hx
      rcases List.mem_cons.1 ((h x).1 (List.mem_cons_of_mem _ hx)) with e | h1
      · subst e; have := hl.1 x hx; omega
      · exact h1
    · intro hx
      rcases List.mem_cons.1 ((h x).2 (List.mem_cons_of_mem _ hx)) with e | h1
      · subst e; have := hm.1 x hx; omega
      · exact h1

theorem mem_ins {a x : Acc} : ∀ {l : List Acc}, x ∈ sInsA a l ↔ x = a ∨ x ∈ l
  | [] => by simp [sInsA]
  | b :: l => by
    unfold sInsA
    split
    · simp
    · simp only [List.mem_cons, mem_ins (l := l)]
      constructor
      · rintro (h | h | h)
        · exact .inr (.inl h)
        · exact .inl h
        · exact .inr (.inr h)
      · rintro (h | h | h)
        · exact .inr (.inl h)
        · exact .inl h
        · exact .inr (.inr h)

theorem rise_ins {a : Acc} : ∀ {l : List Acc}, Rise l → (∀ x ∈ l, x.sender ≠ a.sender) → Rise (sInsA a l)
  | [], _, _ => by simp [sInsA]
  | b :: l, h, hn => by
    have h' := h
    rw [rise_cons] at h
    unfold sInsA
    split
    · rename_i hlt
      refine List.Pairwise.cons (fun x hx => ?_) h'
      rcases List.mem_cons.1 hx with rfl | hx
      · exact hlt
      · have := h.1 x hx; omega
    · rename_i hlt
      have := hn b List.mem_cons_self
      refine List.Pairwise.cons (fun x hx => ?_) (rise_ins h.2 fun x hx => hn x (List.mem_cons_of_mem _ hx))
      rcases mem_ins.1 hx with rfl | hx
      · omega
      · exact h.1 x hx

theorem mem_set {a x : Acc} {l : List Acc} : x ∈ sSetL l a ↔ (x = a ∧ emp a = false) ∨ (x ∈ l ∧ x.sender ≠ a.sender) := by
  unfold sSetL
  have hd : ∀ x, x ∈ sDelA l a.sender ↔ x ∈ l ∧ x.sender ≠ a.sender := fun x => by simp [sDelA]
  cases he : emp a with
  | true => simp [hd]
  | false => simp [mem_ins, hd]

theorem rise_set {a : Acc} {l : List Acc} (h : Rise l) : Rise (sSetL l a) := by
  unfold sSetL
  have hd : Rise (sDelA l a.sender) := h.filter _
  split
  · exact hd
  · refine rise_ins hd fun x hx => ?_
    have := (List.mem_filter.1 hx).2
    simpa using this

theorem getA_mem {l : List Acc} (h : Rise l) {a : Acc} (ha : a ∈ l) : sGetA l a.sender = a := by
  unfold sGetA
  have : l.find? (fun x => decide (x.sender = a.sender)) = some a := by
    induction l with
    | nil => cases ha
    | cons b l ih =>
      rw [rise_cons] at h
      rw [List.find?_cons]
      rcases List.mem_cons.1 ha with rfl | ha
      · simp
      · have := h.1 a ha
        rw [decide_eq_false (by omega)]
        exact ih h.2 ha
  rw [this]

theorem getA_none {l : List Acc} {s : Int} (h : ∀ a ∈ l, a.sender ≠ s) : sGetA l s = ⟨s, 0, []⟩ := by
  unfold sGetA
  have : l.find? (fun x => decide (x.sender = s)) = none := by
    rw [List.find?_eq_none]
    intro x hx
    simpa using h x hx
  rw [this]

def sSlots (l : List Acc) : Int := (l.map fun a => sQ a.txs).sum
theorem slots_nil : sSlots [] = 0 := rfl
theorem slots_cons (a : Acc) (l : List Acc) : sSlots (a :: l) = sQ a.txs + sSlots l := by simp [sSlots]
theorem slots_ins (a : Acc) : ∀ l : List Acc, sSlots (sInsA a l) = sQ a.txs + sSlots l
  | [] => by simp [sInsA, slots_cons]
  | b :: l => by
    unfold sInsA
    split
    · simp [slots_cons]
    · rw [slots_cons, slots_cons, slots_ins a l]; omega

theorem slots_del {l : List Acc} (h : Rise l) (s : Int) : sSlots (sDelA l s) = sSlots l - sQ (sGetA l s).txs := by
  induction l with
  | nil => simp [sDelA, sGetA, sSlots, sQ]
  | cons b l ih =>
    rw [rise_cons] at h
    by_cases hb : b.sender = s
    · have hd : sDelA (b :: l) s = l := by
        unfold sDelA
        rw [List.filter_cons]
        simp only [hb, decide_true, Bool.not_true, Bool.false_eq_true, if_false]
        refine List.filter_eq_self.2 fun x hx => ?_
        have := h.1 x hx
        simp; omega
      have hg : sGetA (b :: l) s = b := by unfold sGetA; rw [List.find?_cons]; simp [hb]
      rw [hd, hg, slots_cons]; omega
    · have hd : sDelA (b :: l) s = b :: sDelA l s := by
        unfold sDelA
        rw [List.filter_cons]
        simp [hb]
      have hg : sGetA (b :: l) s = sGetA l s := by unfold sGetA; rw [List.find?_cons]; simp [hb]
      rw [hd, hg, slots_cons, slots_cons, ih h.2]; omega

theorem emp_slots {a : Acc} (h : emp a = true) : sQ a.txs = 0 := by
  simp only [emp, decide_eq_true_eq] at h
  rw [h.2]; rfl

theorem slots_set {l : List Acc} (h : Rise l) (a : Acc) : sSlots (sSetL l a) = sSlots l - sQ (sGetA l a.sender).txs + sQ a.txs := by
  unfold sSetL
  split
  · rename_i he
    rw [slots_del h, emp_slots he]; omega
  · rw [slots_ins, slots_del h]; omega

def sJoinA (m l : List Acc) : List Acc := l.foldl (fun acc a => sInsA a acc) m
def sJoin (L : List Shard) : List Acc := L.foldl (fun acc s => sJoinA acc s.accounts) []

theorem mem_joinA {x : Acc} : ∀ {l m : List Acc}, x ∈ sJoinA m l ↔ x ∈ m ∨ x ∈ l
  | [], m => by simp [sJoinA]
  | a :: l, m => by
    have e : sJoinA m (a :: l) = sJoinA (sInsA a m) l := rfl
    rw [e, mem_joinA, mem_ins, List.mem_cons]
    constructor
    · rintro ((h | h) | h)
      · exact .inr (.inl h)
      · exact .inl h
      · exact .inr (.inr h)
    · rintro (h | h | h)
      · exact .inl (.inr h)
      · exact .inl (.inl h)
      · exact .inr h

theorem rise_joinA : ∀ {l m : List Acc}, Rise m → Rise l → (∀ x ∈ m, ∀ y ∈ l, x.sender ≠ y.sender) → Rise (sJoinA m l)
  | [], m, hm, _, _ => hm
  | a :: l, m, hm, hl, hn => by
    rw [rise_cons] at hl
    refine rise_joinA (l := l) (m := sInsA a m) (rise_ins hm fun x hx => hn x hx a List.mem_cons_self) hl.2 fun x hx y hy => ?_
    rcases mem_ins.1 hx with rfl | hx
    · have := hl.1 y hy; omega
    · exact hn x hx y (List.mem_cons_of_mem _ hy)

theorem slots_joinA : ∀ (l m : List Acc), sSlots (sJoinA m l) = sSlots m + sSlots l
  | [], m => by simp [sJoinA, slots_nil]
  | a :: l, m => by
    have e : sJoinA m (a :: l) = sJoinA (sInsA a m) l := rfl
    rw [e, slots_joinA, slots_ins, slots_cons]; omega

def shsOk (per n : Int) : Nat → List Shard → Prop
  | _, [] => True
  | i, s :: L => sAccs per n i (-1) s.accounts = true ∧ shsOk per n (i + 1) L

theorem shsOk_iff {per n : Int} : ∀ {L : List Shard} {i : Nat}, shsOk per n i L ↔ ∀ (j : Nat) s, L[j]? = some s → sAccs per n ((i + j : Nat) : Int) (-1) s.accounts = true
  | [], i => by simp [shsOk]
  | x :: L, i => by
    simp only [shsOk, shsOk_iff (L := L)]
    constructor
    · rintro ⟨h1, h2⟩ j s h
      cases j with
      | zero => simp at h; subst h; exact h1
      | succ j =>
        have := h2 j s (by simpa using h)
        rwa [show i + 1 + j = i + (j + 1) from by omega] at this
    · intro h
      refine ⟨h 0 x rfl, fun j s hj => ?_⟩
      rw [show i + 1 + j = i + (j + 1) from by omega]
      exact h (j + 1) s (by simpa using hj)

theorem joinF_mem {x : Acc} : ∀ {L : List Shard} {m : List Acc}, x ∈ L.foldl (fun acc s => sJoinA acc s.accounts) m ↔ x ∈ m ∨ ∃ s ∈ L, x ∈ s.accounts
  | [], m => by simp
  | s :: L, m => by
    rw [List.foldl_cons, joinF_mem, mem_joinA]
    simp only [List.mem_cons, exists_eq_or_imp, or_assoc]

theorem joinF_rise {per n : Int} : ∀ {L : List Shard} {m : List Acc} {i : Nat}, shsOk per n i L → Rise m → (∀ x ∈ m, ∃ k : Nat, k < i ∧ sShd x.sender n = k) → Rise (L.foldl (fun acc s => sJoinA acc s.accounts) m)
  | [], m, i, _, hm, _ => hm
  | s :: L, m, i, h, hm, hk => by
    obtain ⟨h1, h2⟩ := h
    rw [List.foldl_cons]
    refine joinF_rise (i := i + 1) h2 (rise_joinA hm (rise_accs h1).1 fun x hx y hy e => ?_) fun x hx => ?_
    · obtain ⟨k, hki, hks⟩ := hk x hx
      have := (accs_mem h1 y hy).2.2
      rw [← e, hks] at this
      omega
    · rcases mem_joinA.1 hx with hx | hx
      · obtain ⟨k, hki, hks⟩ := hk x hx
        exact ⟨k, by omega, hks⟩
      · exact ⟨i, by omega, (accs_mem h1 x hx).2.2⟩

theorem joinF_slots : ∀ (L : List Shard) (m : List Acc), sSlots (L.foldl (fun acc s => sJoinA acc s.accounts) m) = sSlots m + (L.map fun s => sSlots s.accounts).sum
  | [], m => by simp
  | s :: L, m => by rw [List.foldl_cons, joinF_slots, slots_joinA, List.map_cons, List.sum_cons]; omega

theorem mem_join {x : Acc} {L : List Shard} : x ∈ sJoin L ↔ ∃ s ∈ L, x ∈ s.accounts := by unfold sJoin; rw [joinF_mem]; simp
theorem rise_join {per n : Int} {L : List Shard} (h : shsOk per n 0 L) : Rise (sJoin L) := joinF_rise h List.Pairwise.nil (by simp)
theorem slots_join (L : List Shard) : sSlots (sJoin L) = (L.map fun s => sSlots s.accounts).sum := by unfold sJoin; rw [joinF_slots]; simp [slots_nil]

theorem may_shs {x : Sight} (h : MayS x) : shsOk x.config.per x.config.shards 0 x.shards := shsOk_iff.2 fun j s hj => by
  have := h.sh j s hj
  simp only [sChkS, Bool.and_eq_true] at this
  simpa using this.2

theorem shd_one {a : Int} (h0 : 0 ≤ a) (h1 : a ≤ 255) : sShd a 1 = 0 := by
  unfold sShd
  rw [if_pos (by omega)]
  omega

theorem join_accs {per n : Int} {L : List Shard} (h : shsOk per n 0 L) : sAccs per 1 0 (-1) (sJoin L) = true := by
  refine accs_rise (rise_join h) fun a ha => ?_
  obtain ⟨s, hs, has⟩ := mem_join.1 ha
  obtain ⟨j, hj⟩ := List.getElem?_of_mem hs
  have hacc := shsOk_iff.1 h j s hj
  obtain ⟨h1, h2, h3⟩ := accs_mem hacc a has
  have hb := (sAcc_spec.1 h1).1
  exact ⟨by omega, h1, h2, shd_one hb.1 hb.2.1⟩

theorem join_get {per n : Int} {L : List Shard} (h : shsOk per n 0 L) {s : Int} {k : Nat} {sh : Shard} (hk : sShd s n = k) (hs : L[k]? = some sh) : sGetA (sJoin L) s = sGetA sh.accounts s := by
  have hacc := shsOk_iff.1 h k sh hs
  by_cases hx : ∃ a ∈ sh.accounts, a.sender = s
  · obtain ⟨a, ha, rfl⟩ := hx
    rw [getA_mem (rise_accs hacc).1 ha, getA_mem (rise_join h) (mem_join.2 ⟨sh, List.mem_of_getElem? hs, ha⟩)]
  · have hn : ∀ a ∈ sh.accounts, a.sender ≠ s := fun a ha e => hx ⟨a, ha, e⟩
    rw [getA_none hn, getA_none]
    intro a ha e
    obtain ⟨s', hs', has⟩ := mem_join.1 ha
    obtain ⟨j, hj⟩ := List.getElem?_of_mem hs'
    have h1 := (accs_mem (shsOk_iff.1 h j s' hj) a has).2.2
    rw [e, hk] at h1
    have : j = k := by omega
    subst this
    rw [hs] at hj
    injection hj with hj
    subst hj
    exact hn a has e

theorem join_set {per n : Int} {L : List Shard} (h : shsOk per n 0 L) {a : Acc} {k : Nat} {sh : Shard} (hk : sShd a.sender n = k) (hs : L[k]? = some sh) (ha : sAcc a per = true) : sJoin (L.set k (sSet sh a)) = sSetL (sJoin L) a := by
  have hlt := (List.getElem?_eq_some_iff.1 hs).1
  have hacc := shsOk_iff.1 h k sh hs
  have h2 : shsOk per n 0 (L.set k (sSet sh a)) := shsOk_iff.2 fun j s hj => by
    simp only [List.getElem?_set, hlt, if_true] at hj
    split at hj
    · rename_i e; subst e
      injection hj with hj; subst hj
      exact accs_set hacc ha (by simpa using hk) (by have := (sAcc_spec.1 ha).1; omega)
    · exact shsOk_iff.1 h j s hj
  refine rise_ext (rise_join h2) (rise_set (rise_join h)) fun x => ?_
  rw [mem_join, mem_set, mem_join]
  constructor
  · rintro ⟨s, hs', hx⟩
    obtain ⟨j, hj⟩ := List.getElem?_of_mem hs'
    simp only [List.getElem?_set, hlt, if_true] at hj
    split at hj
    · rename_i e; subst e
      injection hj with hj; subst hj
      rcases mem_set.1 hx with hx | ⟨hx, hne⟩
      · exact .inl hx
      · exact .inr ⟨⟨sh, List.mem_of_getElem? hs, hx⟩, hne⟩
    · rename_i hne
      refine .inr ⟨⟨s, List.mem_of_getElem? hj, hx⟩, fun e => ?_⟩
      have h1 := (accs_mem (shsOk_iff.1 h j s hj) x hx).2.2
      rw [e, hk] at h1
      omega
  · rintro (hx | ⟨⟨s, hs', hx⟩, hne⟩)
    · exact ⟨sSet sh a, List.mem_of_getElem? (i := k) (by rw [List.getElem?_set]; simp [hlt]), mem_set.2 (.inl hx)⟩
    · obtain ⟨j, hj⟩ := List.getElem?_of_mem hs'
      by_cases e : k = j
      · subst e
        rw [hs] at hj; injection hj with hj; subst hj
        exact ⟨sSet sh a, List.mem_of_getElem? (i := k) (by rw [List.getElem?_set]; simp [hlt]), mem_set.2 (.inr ⟨hx, hne⟩)⟩
      · exact ⟨s, List.mem_of_getElem? (i := j) (by rw [List.getElem?_set, if_neg e]; exact hj), hx⟩

def sPool (c : Config) (l : List Acc) : Bool := sCfg c && decide (sSlots l ≤ c.hard) && sAccs c.per 1 0 (-1) l

def sPlan (c : Config) (l : List Acc) (k s n : Int) (d : List UInt8) : Plan :=
  if (sWhose k s d).2 = true then sLook c (sGetA l (sWhose k s d).1) k n d else sLook c ⟨-1, 0, []⟩ k n d

def sDo (c : Config) (l : List Acc) (k s n : Int) (d : List UInt8) : List Acc × Result × List Event :=
  if (sPlan c l k s n d).changes = true then
    if c.hard - sSlots l < (sPlan c l k s n d).delta then (l, ⟨6, zTx, [], 0⟩, [])
    else (sSetL l (sPlan c l k s n d).after, (sPlan c l k s n d).result, (sPlan c l k s n d).events)
  else (l, (sPlan c l k s n d).result, [])

end Go.Vm

/- shard.Set, program = document's answer in plain form. -/
set_option linter.unusedVariables false
set_option linter.unusedSimpArgs false
namespace Go.Vm
open Go Go.RowKit

theorem p_Clone_Acc (l : List Acc) (hl : l.length ≤ 1000000) : F_kb0 l = some l := by
  simp only [F_kb0, pk_kb0]
  have h8 : l.length * 40 ≤ 140737488355328 := by omega
  cases l with
  | nil => simp [wboth]
  | cons x l => rw [if_neg (List.cons_ne_nil _ _), if_pos h8, if_neg (List.cons_ne_nil _ _)]

theorem drop_head {α : Type} {l k : List α} {t : α} {i : Nat} (h : l.drop i = t :: k) : l[i]? = some t ∧ l.drop (i + 1) = k ∧ i < l.length := by
  have ht : l[i]? = some t := by
    have := congrArg (·[0]?) h
    simpa using this
  refine ⟨ht, ?_, (List.getElem?_eq_some_iff.1 ht).1⟩
  have := congrArg List.tail h
  simpa using this

theorem ix1 (o0 : Shard) (a : Acc) (d : List Acc) (hd : d.length ≤ 1000000) : ∀ (m : List Acc) (i : Nat), d.drop i = m → i ≤ d.length →
    run (fun s : L_kb6_0 => if s.v8 < s.v7 then (if 0 ≤ s.v8 ∧ s.v8 < (s.s_.length : Int) then s.s_[s.v8.toNat]?.bind fun x =>
        if x.sender = s.o1.sender then some (Sum.inr (Sum.inr ({ v4 := s.v8, v7 := s.v7, v8 := s.v8, o0 := s.o0, o1 := s.o1, version := s.version, s_ := s.s_, o4 := s.o4 } : L_kb6_0)))
        else some (Sum.inl { v4 := s.v4, v7 := s.v7, v8 := IntKind.i64.wrap (s.v8 + 1), o0 := s.o0, o1 := s.o1, version := s.version, s_ := s.s_, o4 := s.o4 }) else none)
      else some (Sum.inr (Sum.inl ({ v4 := s.v4, v7 := s.v7, v8 := s.v8, o0 := s.o0, o1 := s.o1, version := s.version, s_ := s.s_, o4 := s.o4 } : L_kb6_0))))
      { v4 := 0, v7 := (d.length : Int), v8 := (i : Int), o0 := o0, o1 := a, version := 0, s_ := d, o4 := [] } =
    some (match m.findIdx? (fun x => decide (x.sender = a.sender)) with
      | none => Sum.inl { v4 := 0, v7 := (d.length : Int), v8 := (d.length : Int), o0 := o0, o1 := a, version := 0, s_ := d, o4 := [] }
      | some j => Sum.inr { v4 := ((i + j : Nat) : Int), v7 := (d.length : Int), v8 := ((i + j : Nat) : Int), o0 := o0, o1 := a, version := 0, s_ := d, o4 := [] })
  | [], i, hm, hi => by
    have h := List.drop_eq_nil_iff.1 hm
    obtain rfl : i = d.length := by omega
    rw [run_eq]
    simp
  | t :: m, i, hm, hi => by
    obtain ⟨ht, hm', hil⟩ := drop_head hm
    have h1 : (i : Int) < (d.length : Int) := by omega
    have h2 : (0 : Int) ≤ (i : Int) ∧ (i : Int) < (d.length : Int) := by omega
    have h3 : (i : Int).toNat = i := by omega
    have h4 : IntKind.i64.wrap ((i : Int) + 1) = ((i + 1 : Nat) : Int) := wrap_add1 i (by omega)
    rw [run_eq]
    simp only [h1, h2, h3, h4, ht, and_self, if_true, Option.bind_some]
    by_cases hp : t.sender = a.sender
    · simp only [hp, if_true, List.findIdx?_cons, decide_true, Nat.add_zero]
    · simp only [hp, if_false]
      rw [ix1 o0 a d hd m (i + 1) hm' (by omega)]
      simp only [List.findIdx?_cons, hp, decide_false, Bool.false_eq_true, if_false]
      cases m.findIdx? (fun x => decide (x.sender = a.sender)) with
      | none => rfl
      | some j => simp only [Option.map_some]; rw [show i + 1 + j = i + (j + 1) from by omega]

theorem ix2 (o0 : Shard) (a : Acc) (d : List Acc) (hd : d.length ≤ 1000000) : ∀ (m : List Acc) (i : Nat), d.drop i = m → i ≤ d.length →
    run (fun s : L_kb7_0 => if s.v8 < s.v7 then (if 0 ≤ s.v8 ∧ s.v8 < (s.s_.length : Int) then s.s_[s.v8.toNat]?.bind fun x =>
        if s.o1.sender < x.sender then some (Sum.inr (Sum.inr ({ v4 := s.v8, v7 := s.v7, v8 := s.v8, o0 := s.o0, o1 := s.o1, version := s.version, o4 := s.o4, s_ := s.s_ } : L_kb7_0)))
        else some (Sum.inl { v4 := s.v4, v7 := s.v7, v8 := IntKind.i64.wrap (s.v8 + 1), o0 := s.o0, o1 := s.o1, version := s.version, o4 := s.o4, s_ := s.s_ }) else none)
      else some (Sum.inr (Sum.inl ({ v4 := s.v4, v7 := s.v7, v8 := s.v8, o0 := s.o0, o1 := s.o1, version := s.version, o4 := s.o4, s_ := s.s_ } : L_kb7_0))))
      { v4 := 0, v7 := (d.length : Int), v8 := (i : Int), o0 := o0, o1 := a, version := 0, o4 := [], s_ := d } =
    some (match m.findIdx? (fun x => decide (a.sender < x.sender)) with
      | none => Sum.inl { v4 := 0, v7 := (d.length : Int), v8 := (d.length : Int), o0 := o0, o1 := a, version := 0, o4 := [], s_ := d }
      | some j => Sum.inr { v4 := ((i + j : Nat) : Int), v7 := (d.length : Int), v8 := ((i + j : Nat) : Int), o0 := o0, o1 := a, version := 0, o4 := [], s_ := d })
  | [], i, hm, hi => by
    have h := List.drop_eq_nil_iff.1 hm
    obtain rfl : i = d.length := by omega
    rw [run_eq]
    simp
  | t :: m, i, hm, hi => by
    obtain ⟨ht, hm', hil⟩ := drop_head hm
    have h1 : (i : Int) < (d.length : Int) := by omega
    have h2 : (0 : Int) ≤ (i : Int) ∧ (i : Int) < (d.length : Int) := by omega
    have h3 : (i : Int).toNat = i := by omega
    have h4 : IntKind.i64.wrap ((i : Int) + 1) = ((i + 1 : Nat) : Int) := wrap_add1 i (by omega)
    rw [run_eq]
    simp only [h1, h2, h3, h4, ht, and_self, if_true, Option.bind_some]
    by_cases hp : a.sender < t.sender
    · simp only [hp, if_true, List.findIdx?_cons, decide_true, Nat.add_zero]
    · simp only [hp, if_false]
      rw [ix2 o0 a d hd m (i + 1) hm' (by omega)]
      simp only [List.findIdx?_cons, hp, decide_false, Bool.false_eq_true, if_false]
      cases m.findIdx? (fun x => decide (a.sender < x.sender)) with
      | none => rfl
      | some j => simp only [Option.map_some]; rw [show i + 1 + j = i + (j + 1) from by omega]

theorem ins_at (a : Acc) : ∀ (d : List Acc), (d.findIdx? (fun x => decide (a.sender < x.sender)) = none → sInsA a d = d ++ [a]) ∧ (∀ i, d.findIdx? (fun x => decide (a.sender < x.sender)) = some i → i < d.length ∧ sInsA a d = d.take i ++ a :: d.drop i)
  | [] => ⟨fun _ => rfl, fun i h => by simp at h⟩
  | x :: d => by
    obtain ⟨h1, h2⟩ := ins_at a d
    rw [List.findIdx?_cons]
    by_cases hp : a.sender < x.sender
    · refine ⟨fun h => by simp [hp] at h, fun i h => ?_⟩
      simp [hp] at h
      subst h
      simp [sInsA, hp]
    · refine ⟨fun h => ?_, fun i h => ?_⟩
      · simp [hp] at h
        simp only [sInsA, hp, if_false, List.cons_append]
        rw [h1 (by simpa using h)]
      · simp only [hp, decide_false, Bool.false_eq_true, if_false, Option.map_eq_some_iff] at h
        obtain ⟨j, hj, rfl⟩ := h
        obtain ⟨g1, g2⟩ := h2 j hj
        refine ⟨by simp; omega, ?_⟩
        simp only [sInsA, hp, if_false, List.take_succ_cons, List.drop_succ_cons, List.cons_append]
        rw [g2]

theorem del_acc (o0 : Shard) (o1 : Acc) (len : Nat) (hlen : len ≤ 1000000) : ∀ (m : List Acc) (j i : Nat) (s : List Acc), s.length = len → s.drop j = m → i < j → j ≤ len →
    ∃ i' s', i' ≤ len ∧ s'.length = len ∧ s'.take i' = s.take i ++ sDelA m o1.sender ∧
      run (fun s : L_kb4_0 => if s.j < (s.s_.length : Int) then (if 0 ≤ s.j ∧ s.j < (s.s_.length : Int) then s.s_[s.j.toNat]?.bind fun a =>
          if a.sender = s.o1.sender then some (Sum.inl { i := s.i, j := IntKind.i64.wrap (s.j + 1), o0 := s.o0, o1 := s.o1, version := s.version, s_ := s.s_, v4 := s.v4 })
          else if 0 ≤ s.i ∧ s.i < (s.s_.length : Int) then s.s_[s.i.toNat]?.bind fun a_2 =>
            if s.i.toNat < s.s_.length then some (Sum.inl { i := IntKind.i64.wrap (s.i + 1), j := IntKind.i64.wrap (s.j + 1), o0 := s.o0, o1 := s.o1, version := s.version, s_ := s.s_.set s.i.toNat a, v4 := s.v4 })
            else some (Sum.inl { i := IntKind.i64.wrap (s.i + 1), j := IntKind.i64.wrap (s.j + 1), o0 := s.o0, o1 := s.o1, version := s.version, s_ := s.s_, v4 := s.v4 })
          else none
        else none) else some (Sum.inr (Sum.inl { i := s.i, j := s.j, o0 := s.o0, o1 := s.o1, version := s.version, s_ := s.s_, v4 := s.v4 } : L_kb4_0 ⊕ L_kb4_0)))
        { i := (i : Int), j := (j : Int), o0 := o0, o1 := o1, version := 0, s_ := s, v4 := [] } = some (.inl { i := (i' : Int), j := (len : Int), o0 := o0, o1 := o1, version := 0, s_ := s', v4 := [] })
  | [], j, i, s, hs, hd, hij, hj => by
    have h := List.drop_eq_nil_iff.1 hd
    obtain rfl : j = len := by omega
    refine ⟨i, s, by omega, hs, by simp [sDelA], ?_⟩
    rw [run_eq]
    have h1 : ¬ ((j : Int) < (s.length : Int)) := by omega
    simp only [h1, if_false]
  | t :: m, j, i, s, hs, hd, hij, hj => by
    obtain ⟨ht, hd', hjl⟩ := drop_head hd
    have h1 : (j : Int) < (s.length : Int) := by omega
    have h2 : (0 : Int) ≤ (j : Int) ∧ (j : Int) < (s.length : Int) := by omega
    have h3 : (j : Int).toNat = j := by omega
    have h4 : IntKind.i64.wrap ((j : Int) + 1) = ((j + 1 : Nat) : Int) := wrap_add1 j (by omega)
    by_cases hn : t.sender = o1.sender
    · obtain ⟨i', s', g1, g2, g3, g4⟩ := del_acc o0 o1 len hlen m (j + 1) i s hs hd' (by omega) (by omega)
      refine ⟨i', s', g1, g2, by rw [g3]; simp [sDelA, hn], ?_⟩
      rw [run_eq]
      simp only [h1, h2, h3, h4, ht, hn, and_self, if_true, Option.bind_some]
      exact g4
    · have hil : i < s.length := by omega
      obtain ⟨i', s', g1, g2, g3, g4⟩ := del_acc o0 o1 len hlen m (j + 1) (i + 1) (s.set i t) (by simpa using hs) (by rw [List.drop_set_of_lt (by omega)]; exact hd') (by omega) (by omega)
      refine ⟨i', s', g1, g2, ?_, ?_⟩
      · rw [g3]
        have : (s.set i t).take (i + 1) = s.take i ++ [t] := by
          rw [List.take_add_one, List.getElem?_set_self hil, List.take_set_of_le (by omega)]
          rfl
        rw [this]
        simp [sDelA, hn]
      · rw [run_eq]
        have h5 : (0 : Int) ≤ (i : Int) ∧ (i : Int) < (s.length : Int) := by omega
        have h6 : (i : Int).toNat = i := by omega
        have h7 : IntKind.i64.wrap ((i : Int) + 1) = ((i + 1 : Nat) : Int) := wrap_add1 i (by omega)
        simp only [h1, h2, h3, h4, ht, hn, and_self, if_true, if_false, Option.bind_some, h5, h6, h7, hil, List.getElem?_eq_getElem hil]
        exact g4

def sVer (v : Int) : Int := if v < 0 ∨ 1099511627776 ≤ v then 0 else v + 1
theorem ver_ite {v : Int} {α : Type} (f : Int → Option α) : (if v < 0 then f 0 else if 1099511627776 ≤ v then f 0 else f (IntKind.i64.wrap (v + 1))) = f (sVer v) := by
  unfold sVer
  by_cases h1 : v < 0
  · rw [if_pos h1, if_pos (.inl h1)]
  · rw [if_neg h1]
    by_cases h2 : 1099511627776 ≤ v
    · rw [if_pos h2, if_pos (.inr h2)]
    · rw [if_neg h2, if_neg (by omega), wrap64 (by omega) (by omega)]

theorem obind {α β : Type} {x : Option α} {r : α} {g : α → Option β} {G : Option β} (h : x = some r) (hg : g r = G) : x.bind g = G := by rw [h]; exact hg

theorem find_none {α : Type} {p : α → Bool} {l : List α} (h : l.findIdx? p = none) : l.filter (fun x => !p x) = l := by
  rw [List.findIdx?_eq_none_iff] at h
  exact List.filter_eq_self.2 fun x hx => by simp [h x hx]

theorem p_shard_Set (s : Shard) (a : Acc) (hl : s.accounts.length ≤ 1000000) : F_kaa s a = some (sSet s a) := by
  simp only [F_kaa, pk_kaa, p_Clone_Acc _ hl, Option.bind_some]
  have hx := ix1 s a s.accounts hl s.accounts 0 rfl (by omega)
  cases hf : s.accounts.findIdx? (fun x => decide (x.sender = a.sender)) with
  | none =>
    rw [hf] at hx
    refine obind hx ?_
    have hdl : sDelA s.accounts a.sender = s.accounts := find_none hf
    simp only [selim, Option.bind_some, if_true, p_shard_empty]
    cases he : emp a with
    | true =>
      rw [show decide (a.base = 0 ∧ a.txs = []) = true from he]
      simp only [Bool.true_eq_false, if_false]
      refine (ver_ite (fun v => some (⟨s.accounts, v⟩ : Shard))).trans ?_
      simp only [sSet, sSetL, he, if_true, hdl]; rfl
    | false =>
      rw [show decide (a.base = 0 ∧ a.txs = []) = false from he]
      simp only [if_true]
      have hy := ix2 s a s.accounts hl s.accounts 0 rfl (by omega)
      obtain ⟨i1, i2⟩ := ins_at a s.accounts
      have hr : (s.accounts.length + 1) * 40 ≤ 140737488355328 := by omega
      cases hg : s.accounts.findIdx? (fun x => decide (a.sender < x.sender)) with
      | none =>
        rw [hg] at hy
        refine obind hy ?_
        have hm : min s.accounts.length s.accounts.length + (s.accounts.length - s.accounts.length + 1) = s.accounts.length + 1 := by omega
        simp only [selim, Option.bind_some, true_and, hr, if_true, hm]
        refine (ver_ite (fun v => some (⟨s.accounts.take s.accounts.length ++ a :: s.accounts.drop s.accounts.length, v⟩ : Shard))).trans ?_
        simp only [sSet, sSetL, he, Bool.false_eq_true, if_false, hdl, i1 hg, List.take_length, List.drop_length]; rfl
      | some i =>
        obtain ⟨g1, g2⟩ := i2 i hg
        rw [hg] at hy
        refine obind hy ?_
        have hz : ¬ ((0 + i : Nat) : Int) < 0 := by omega
        have hc : (0 : Int) ≤ ((0 + i : Nat) : Int) ∧ ((0 + i : Nat) : Int) ≤ (s.accounts.length : Int) := by omega
        have hn : (((0 + i : Nat) : Int)).toNat = i := by omega
        have hm : min i s.accounts.length + (s.accounts.length - i + 1) = s.accounts.length + 1 := by omega
        simp only [selim, Option.bind_some, true_and, hr, hz, hc, and_self, hn, if_true, if_false, hm]
        refine (ver_ite (fun v => some (⟨s.accounts.take i ++ a :: s.accounts.drop i, v⟩ : Shard))).trans ?_
        simp only [sSet, sSetL, he, Bool.false_eq_true, if_false, hdl, g2]; rfl
  | some i =>
    rw [hf] at hx
    refine obind hx ?_
    obtain ⟨hi, hp, hb⟩ := List.findIdx?_eq_some_iff_getElem.1 hf
    have h1 : ¬ (((0 + i : Nat) : Int) = -1) := by omega
    have h2 : IntKind.i64.wrap (((0 + i : Nat) : Int) + 1) = ((i + 1 : Nat) : Int) := by
      rw [Nat.zero_add]; exact wrap_add1 i (by omega)
    have h3 : ((0 + i : Nat) : Int) = (i : Int) := by omega
    obtain ⟨i', s', g1, g2, g3, g4⟩ := del_acc s a s.accounts.length hl (s.accounts.drop (i + 1)) (i + 1) i s.accounts rfl rfl (by omega) (by omega)
    simp only [selim, Option.bind_some, h1, if_false, List.length_nil, h2, and_self, if_true]
    rw [h3]
    refine obind g4 ?_
    have hdl : sDelA s.accounts a.sender = s'.take i' := by
      rw [g3]
      have hsplit : s.accounts = s.accounts.take i ++ s.accounts[i] :: s.accounts.drop (i + 1) := by
        conv => lhs; rw [← List.take_append_drop i s.accounts]
        congr 1
        exact List.drop_eq_getElem_cons hi
      conv => lhs; rw [hsplit]
      unfold sDelA
      rw [List.filter_append, List.filter_cons_of_neg (by simpa using hp)]
      congr 1
      refine List.filter_eq_self.2 fun x hx => ?_
      obtain ⟨j, hj, rfl⟩ := List.getElem_of_mem hx
      have hji : j < i := by simp at hj; omega
      have := hb j hji
      simp only [List.getElem_take]
      simpa using this
    have c1 : (0 : Int) ≤ (i' : Int) ∧ (i' : Int) ≤ (s'.length : Int) := by omega
    have c2 : (i' : Int) ≤ (s'.length : Int) := by omega
    have c3 : (i' : Int).toNat = i' := by omega
    have c4 : min i' s'.length + (s'.length - i') = s'.length := by omega
    have c5 : i' ≤ ((s'.map Acc.c).take i').length := by simp; omega
    have c6 : max (i' : Int) 0 = (i' : Int) := by omega
    have hlen : (s'.take i').length = i' := by simp; omega
    have c7 : min i' s'.length = i' := by omega
    have c8 : i' + (s'.length - i') = s'.length := by omega
    have dl : ∀ r : List (List DV), decL dAcc (List.take i' (List.take i' (List.map Acc.c s') ++ r)) = some (s'.take i') := by
      intro r
      rw [List.take_append_of_le_length c5, List.take_take, Nat.min_self, Acc.dtake]
    simp only [selim, Option.bind_some, c1, c2, c3, c7, c8, c6, and_self, if_true, p_shard_empty, dl]
    cases he : emp a with
    | true =>
      rw [show decide (a.base = 0 ∧ a.txs = []) = true from he]
      simp only [Bool.true_eq_false, if_false]
      refine (ver_ite (fun v => some (⟨s'.take i', v⟩ : Shard))).trans ?_
      simp only [sSet, sSetL, he, if_true, hdl]; rfl
    | false =>
      rw [show decide (a.base = 0 ∧ a.txs = []) = false from he]
      simp only [if_true, hlen]
      generalize hD : s'.take i' = D at *
      have hDl : D.length ≤ 1000000 := by omega
      rw [← hlen]
      have hy := ix2 s a D hDl D 0 rfl (by omega)
      obtain ⟨i1, i2⟩ := ins_at a D
      have hr : (D.length + 1) * 40 ≤ 140737488355328 := by omega
      have hz0 : (0 : Int) ≤ (D.length : Int) := by omega
      have hzn : ((D.length : Nat) : Int).toNat = D.length := by omega
      cases hg : D.findIdx? (fun x => decide (a.sender < x.sender)) with
      | none =>
        rw [hg] at hy
        refine obind hy ?_
        have hm : min D.length D.length + (D.length - D.length + 1) = D.length + 1 := by omega
        simp only [selim, Option.bind_some, true_and, hr, hz0, hzn, and_self, if_true, hm]
        refine (ver_ite (fun v => some (⟨D.take D.length ++ a :: D.drop D.length, v⟩ : Shard))).trans ?_
        simp only [sSet, sSetL, he, Bool.false_eq_true, if_false, hdl, i1 hg, List.take_length, List.drop_length]; rfl
      | some i =>
        obtain ⟨g1, g2⟩ := i2 i hg
        rw [hg] at hy
        refine obind hy ?_
        have hz : ¬ ((0 + i : Nat) : Int) < 0 := by omega
        have hc : (0 : Int) ≤ ((0 + i : Nat) : Int) ∧ ((0 + i : Nat) : Int) ≤ (D.length : Int) := by omega
        have hn : (((0 + i : Nat) : Int)).toNat = i := by omega
        have hm : min i D.length + (D.length - i + 1) = D.length + 1 := by omega
        simp only [selim, Option.bind_some, true_and, hr, hz, hc, and_self, hn, if_true, if_false, hm]
        refine (ver_ite (fun v => some (⟨D.take i ++ a :: D.drop i, v⟩ : Shard))).trans ?_
        simp only [sSet, sSetL, he, Bool.false_eq_true, if_false, hdl, g2]; rfl

end Go.Vm

/- Layer 16, program and document: what may be, who may go on, a step. -/
set_option linter.unusedVariables false
set_option linter.unusedSimpArgs false
namespace Go.Vm
open Go Go.RowKit

theorem all_run {α σ : Type} {step : σ → Option (σ ⊕ (σ ⊕ Bool))} {s0 : σ} {f : σ → Option Bool} {q : Bool} (L : List α) (st : Nat → σ) (p : Nat → α → Bool) (h0 : s0 = st 0)
    (hs : ∀ i a, L[i]? = some a → step (st i) = some (if p i a = true then .inl (st (i + 1)) else .inr (.inr false)))
    (he : step (st L.length) = some (.inr (.inl (st L.length)))) (hf : f (st L.length) = some q) :
    (run step s0).bind (selim f fun n => some n) = some (allI p 0 L && q) := by
  refine run_bind (γ := Unit) L (fun i _ => st i) (fun i _ a => some (if p i a = true then .inl () else .inr (.inr false))) (fun _ => some (.inl (st L.length))) () h0 ?_ ?_ ?_
  · intro i c a ha
    rw [hs i a ha]
    by_cases h : p i a = true <;> simp [h]
  · intro c; rw [he]; rfl
  · have key : ∀ (k : List α) (i : Nat), (loopL (γ := Unit) (fun i _ a => some (if p i a = true then .inl () else .inr (.inr false))) (fun _ => some (.inl (st L.length))) i () k).bind (selim f fun n => some n) = some (allI p i k && q) := by
      intro k
      induction k with
      | nil => intro i; simp [loopL, selim, allI, hf]
      | cons a k ih =>
        intro i
        unfold loopL
        by_cases h : p i a = true
        · simp only [h, if_true, allI, Bool.true_and]; exact ih (i + 1)
        · simp [h, allI, selim]
    exact key L 0

def ShS (s : Shard) : Prop := s.accounts.length ≤ 1048576 ∧ ∀ a ∈ s.accounts, a.txs.length ≤ 1048576
def ShX (x : Sight) : Prop := x.locks.length ≤ 1048576 ∧ x.shards.length ≤ 1048576 ∧ ∀ s ∈ x.shards, ShS s
theorem sh_of {α : Type} {l : List α} (h : l.length ≤ 1048576) : Short l := by simp only [Short]; omega

theorem may_sh {x : Sight} (h : MayS x) : ShX x := by
  have hc := sCfg_spec.1 h.cfg
  have h1 := h.llen; have h2 := h.slen
  refine ⟨by omega, by omega, fun s hs => ?_⟩
  obtain ⟨i, hi⟩ := List.getElem?_of_mem hs
  have hk := h.sh i s hi
  simp only [sChkS, Bool.and_eq_true] at hk
  have := accs_len hk.2 (by omega)
  refine ⟨by omega, fun a ha => ?_⟩
  have := (sAcc_spec.1 (accs_mem hk.2 a ha).1).1
  omega

theorem accs_loop (c : Config) (k : Int) (o0 : Shard) (L : List Acc) : ∀ (l : List Acc) (i : Nat) (last : Int),
    (loopL (β := L_ka7_0 ⊕ Bool) (fun _ (last : Int) (a : Acc) => some (if (sAcc a c.per && !emp a && decide (last < a.sender) && decide (sShd a.sender c.shards = k)) = true then .inl a.sender else .inr (.inr false))) (fun last => some (.inl ⟨k, last, L, L.length, L.length, o0, c⟩)) i last l).bind (selim (fun s => some true) fun n => some n) = some (sAccs c.per c.shards k last l)
  | [], i, last => rfl
  | a :: l, i, last => by
    unfold loopL
    by_cases h : (sAcc a c.per && !emp a && decide (last < a.sender) && decide (sShd a.sender c.shards = k)) = true
    · simp only [h, if_true, sAccs, Bool.true_and]; exact accs_loop c k o0 L l (i + 1) a.sender
    · simp [h, sAccs, selim]

theorem p_shard_Check (s : Shard) (k : Int) (c : Config) (h : ShS s) : F_ka7 s k c = some (sChkS c k s) := by
  simp only [F_ka7, pk_ka7]
  by_cases h1 : s.version < 0
  · rw [if_pos h1]; unfold sChkS; rw [decide_eq_false (by omega)]; rfl
  by_cases h2 : 1099511627776 < s.version
  · rw [if_neg h1, if_pos h2]; unfold sChkS; rw [decide_eq_false (by omega)]; rfl
  rw [if_neg h1, if_neg h2]
  unfold sChkS
  rw [decide_eq_true (by omega), Bool.true_and]
  refine run_bind (γ := Int) s.accounts (fun i last => ⟨k, last, s.accounts, s.accounts.length, i, s, c⟩) (fun _ last a => some (if (sAcc a c.per && !emp a && decide (last < a.sender) && decide (sShd a.sender c.shards = k)) = true then .inl a.sender else .inr (.inr false))) (fun last => some (.inl ⟨k, last, s.accounts, s.accounts.length, s.accounts.length, s, c⟩)) (-1) rfl ?_ ?_ ?_
  · intro i last a ha
    obtain ⟨h1, h2, h3, h4⟩ := at_ ha (sh_of h.1)
    have hm := List.mem_of_getElem? ha
    simp only [h1, h2, h3, h4, ha, if_true, Option.bind_some, p_queue_Check a c.per (sh_of (h.2 a hm)), p_shard_empty, p_fnv_Shard]
    rw [show decide (a.base = 0 ∧ a.txs = []) = emp a from rfl]
    by_cases g1 : sAcc a c.per = true
    · by_cases g2 : emp a = true
      · simp [g1, g2]
      · by_cases g3 : last < a.sender
        · by_cases g4 : sShd a.sender c.shards = k
          · have g5 : ¬ a.sender ≤ last := by omega
            simp [g1, g2, g3, g4, g5]
          · have g5 : ¬ a.sender ≤ last := by omega
            simp [g1, g2, g3, g4, g5]
        · have g5 : a.sender ≤ last := by omega
          simp [g1, g2, g3, g5]
    · simp [g1]
  · intro last; simp
  · exact accs_loop c k s s.accounts s.accounts 0 (-1)

theorem racc_loop (c : Config) (k : Int) (s : Shard) : ∀ (l : List Acc) (i : Nat), s.accounts.drop i = l → ∀ last, (i = 0 → last = -1) → (0 < i → ∃ p, s.accounts[i - 1]? = some p ∧ last = p.sender) → -1 ≤ last →
    (loopL (γ := Unit) (β := L_k7a_0 ⊕ Bool) (fun i _ (a : Acc) => if (sAcc a c.per && !emp a && decide (sShd a.sender c.shards = k)) = true then (if 0 < i then (match s.accounts[i - 1]? with | some p => if a.sender ≤ p.sender then some (.inr (.inr false)) else some (.inl ()) | none => none) else some (.inl ())) else some (.inr (.inr false))) (fun _ => some (.inl ⟨k, s.accounts.length, s, c⟩)) i () l).bind (selim (fun s => some true) fun n => some n) = some (sAccs c.per c.shards k last l)
  | [], i, hd, last, h0, h1, hl => rfl
  | a :: l, i, hd, last, h0, h1, hl => by
    obtain ⟨ht, hd', hil⟩ := drop_head hd
    unfold loopL
    by_cases h : (sAcc a c.per && !emp a && decide (sShd a.sender c.shards = k)) = true
    · have hs := h
      simp only [Bool.and_eq_true, decide_eq_true_eq] at hs
      have hb := (sAcc_spec.1 hs.1.1).1
      have ih := racc_loop c k s l (i + 1) hd' a.sender (fun h => by omega) (fun _ => ⟨a, by simpa using ht, rfl⟩) (by omega)
      have hcond : ∀ b : Bool, (sAcc a c.per && !emp a && b && decide (sShd a.sender c.shards = k)) = b := by
        intro b; simp [hs.1.1, hs.1.2, hs.2]
      simp only [h, if_true, sAccs, hcond]
      by_cases hi0 : i = 0
      · have e := h0 hi0
        have g : last < a.sender := by omega
        simp only [show ¬ 0 < i from by omega, if_false, g, decide_true, Bool.true_and]
        exact ih
      · obtain ⟨p, hp, he⟩ := h1 (by omega)
        simp only [show 0 < i from by omega, if_true, hp]
        by_cases g : a.sender ≤ p.sender
        · have g2 : ¬ last < a.sender := by omega
          simp [g, g2, selim]
        · have g2 : last < a.sender := by omega
          simp only [g, if_false, g2, decide_true, Bool.true_and]
          exact ih
    · have hf : (sAcc a c.per && !emp a && decide (last < a.sender) && decide (sShd a.sender c.shards = k)) = false := by
        simp only [Bool.and_eq_true, not_and] at h
        cases h1 : sAcc a c.per <;> cases h2 : emp a <;> simp_all
      simp [h, sAccs, hf, selim]

theorem p_r11_Check (s : Shard) (k : Int) (c : Config) (h : ShS s) : F_k7a s k c = some (sChkS c k s) := by
  simp only [F_k7a, pk_k7a]
  by_cases h1 : s.version < 0
  · rw [if_pos h1]; unfold sChkS; rw [decide_eq_false (by omega)]; rfl
  by_cases h2 : 1099511627776 < s.version
  · rw [if_neg h1, if_pos h2]; unfold sChkS; rw [decide_eq_false (by omega)]; rfl
  rw [if_neg h1, if_neg h2]
  unfold sChkS
  rw [decide_eq_true (by omega), Bool.true_and]
  refine run_bind (γ := Unit) s.accounts (fun i _ => ⟨k, i, s, c⟩) (fun i _ (a : Acc) => if (sAcc a c.per && !emp a && decide (sShd a.sender c.shards = k)) = true then (if 0 < i then (match s.accounts[i - 1]? with | some p => if a.sender ≤ p.sender then some (.inr (.inr false)) else some (.inl ()) | none => none) else some (.inl ())) else some (.inr (.inr false))) (fun _ => some (.inl ⟨k, s.accounts.length, s, c⟩)) () rfl ?_ ?_ ?_
  · intro i _ a ha
    obtain ⟨h1, h2, h3, h4⟩ := at_ ha (sh_of h.1)
    have hm := List.mem_of_getElem? ha
    have hil := (List.getElem?_eq_some_iff.1 ha).1
    simp only [h1, h2, h3, h4, ha, if_true, Option.bind_some, p_r05_Check a c.per (sh_of (h.2 a hm)), p_r11_empty, p_r02_Shard]
    rw [show decide (a.base = 0 ∧ a.txs = []) = emp a from rfl]
    by_cases g1 : sAcc a c.per = true
    · by_cases g2 : emp a = true
      · simp [g1, g2]
      · by_cases g4 : sShd a.sender c.shards = k
        · by_cases hi0 : i = 0
          · subst hi0
            simp [g1, g2, g4]
          · have e1 : IntKind.i64.wrap ((i : Int) - 1) = ((i - 1 : Nat) : Int) := by
              have := h.1
              rw [wrap64 (by omega) (by omega)]; omega
            have e2 : (0 : Int) < (i : Int) := by omega
            have e3 : 0 < i := by omega
            have e4 : i - 1 < s.accounts.length := by omega
            have e5 : s.accounts[i - 1]? = some s.accounts[i - 1] := List.getElem?_eq_getElem e4
            have e6 : (0 : Int) ≤ ((i - 1 : Nat) : Int) := by omega
            have e7 : ((i - 1 : Nat) : Int).toNat = i - 1 := by omega
            simp only [g1, g2, g4, e1, e2, e3, e5, e6, e7, Bool.true_eq_false, if_false, if_true, Option.bind_some, Bool.not_true, Bool.not_false, Bool.and_true, Bool.true_and, decide_true]
            by_cases g : a.sender ≤ s.accounts[i - 1].sender <;> simp [g, g2]
        · simp [g1, g2, g4]
    · simp [g1]
  · intro _; simp
  · exact racc_loop c k s s.accounts 0 rfl (-1) (fun _ => rfl) (fun h => by omega) (by omega)

theorem p_task_May (x : Sight) (h : ShX x) : F_kc0 x = some (sMay x) := by
  simp only [F_kc0, pk_kc0, p_pool_Config, Option.bind_some, sMay]
  cases hc : sCfg x.config with
  | false => simp
  | true =>
  by_cases h1 : (x.locks.length : Int) = x.config.shards
  case neg => simp [h1]
  by_cases h2 : (x.shards.length : Int) = x.config.shards
  case neg => simp [h2]
  by_cases h3 : x.pot.most = x.config.hard
  case neg => simp [h3]
  by_cases h4 : x.pot.taken < 0
  case pos => simp [h4, Int.not_le.2 h4]
  by_cases h5 : x.config.hard < x.pot.taken
  case pos => simp [h5, Int.not_le.2 h5]
  rw [if_neg (by simp), if_pos h1, if_pos h2, if_pos h3, if_neg h4, if_neg h5, decide_eq_true ⟨h1, h2, h3, by omega, by omega⟩]
  rw [Bool.true_and, Bool.true_and]
  refine Eq.trans (b := some (allI (fun i s => decide (0 ≤ (x.locks[i]?).getD 0) && sChkS x.config i s) 0 x.shards && true)) ?_ (by rw [Bool.and_true])
  refine all_run (q := true) x.shards (fun i => (⟨x.shards, x.shards.length, i, x, x.config⟩ : L_kc0_0)) (fun i s => decide (0 ≤ (x.locks[i]?).getD 0) && sChkS x.config i s) rfl ?_ ?_ rfl
  · intro i s hi
    obtain ⟨g1, g2, g3, g4⟩ := at_ hi (sh_of h.2.1)
    have hil := (List.getElem?_eq_some_iff.1 hi).1
    have hl : i < x.locks.length := by omega
    have hm := List.mem_of_getElem? hi
    simp only [g1, g2, g3, g4, hi, List.getElem?_eq_getElem hl, if_true, Option.bind_some, p_shard_Check s i x.config (h.2.2 s hm), Option.getD_some]
    by_cases e1 : x.locks[i] < 0
    · simp [e1, Int.not_le.2 e1]; try rfl
    · have e2 : 0 ≤ x.locks[i] := by omega
      cases e3 : sChkS x.config i s <;> (simp [e1, e2, e3]; try rfl)
  · simp; try rfl

theorem p_r16_May (x : Sight) (h : ShX x) : F_ka0 x = some (sMay x) := by
  simp only [F_ka0, pk_ka0, p_r13_Config, Option.bind_some, sMay]
  cases hc : sCfg x.config with
  | false => simp
  | true =>
  by_cases h1 : (x.locks.length : Int) = x.config.shards
  case neg => simp [h1]
  by_cases h2 : (x.shards.length : Int) = x.config.shards
  case neg => simp [h2]
  by_cases h3 : x.pot.most = x.config.hard
  case neg => simp [h3]
  by_cases h4 : x.pot.taken < 0
  case pos => simp [h4, Int.not_le.2 h4]
  by_cases h5 : x.config.hard < x.pot.taken
  case pos => simp [h5, Int.not_le.2 h5]
  rw [if_neg (by simp), if_pos h1, if_pos h2, if_pos h3, if_neg h4, if_neg h5, decide_eq_true ⟨h1, h2, h3, by omega, by omega⟩]
  rw [Bool.true_and, Bool.true_and]
  refine Eq.trans (b := some (allI (fun i s => decide (0 ≤ (x.locks[i]?).getD 0) && sChkS x.config i s) 0 x.shards && true)) ?_ (by rw [Bool.and_true])
  refine all_run (q := true) x.shards (fun i => (⟨i, x, x.config⟩ : L_ka0_0)) (fun i s => decide (0 ≤ (x.locks[i]?).getD 0) && sChkS x.config i s) rfl ?_ ?_ rfl
  · intro i s hi
    obtain ⟨g1, g2, g3, g4⟩ := at_ hi (sh_of h.2.1)
    rw [h2] at g1
    have hil := (List.getElem?_eq_some_iff.1 hi).1
    have hl : i < x.locks.length := by omega
    have hm := List.mem_of_getElem? hi
    simp only [g1, g2, g3, g4, hi, List.getElem?_eq_getElem hl, if_true, Option.bind_some, p_r11_Check s i x.config (h.2.2 s hm), Option.getD_some]
    by_cases e1 : x.locks[i] < 0
    · simp [e1, Int.not_le.2 e1]; try rfl
    · have e2 : 0 ≤ x.locks[i] := by omega
      cases e3 : sChkS x.config i s <;> (simp [e1, e2, e3]; try rfl)
  · simp [h2]; try rfl

theorem p_task_shard (t : Task) (x : Sight) : F_kca t x = some (sK t x) := by
  simp only [F_kca, pk_kca, p_fnv_Shard]; rfl

theorem p_task_Able (t : Task) (who : Int) (x : Sight) (h : ShX x) : F_kbf t who x = some (sAble t who x) := by
  simp only [F_kbf, pk_kbf, p_task_May x h, p_task_shard, Option.bind_some, sAble, p_lock_Free]
  by_cases h1 : who < 1
  · rw [if_pos h1, if_pos (.inl h1)]
  by_cases h2 : t.phase < 0
  · rw [if_neg h1, if_pos h2, if_pos (.inr (.inl h2))]
  by_cases h3 : 5 < t.phase
  · rw [if_neg h1, if_neg h2, if_pos h3, if_pos (.inr (.inr (.inl h3)))]
  rw [if_neg h1, if_neg h2, if_neg h3]
  cases hm : sMay x with
  | false => rw [if_pos rfl, if_pos (.inr (.inr (.inr rfl)))]
  | true =>
    have e : ¬ (who < 1 ∨ t.phase < 0 ∨ 5 < t.phase ∨ true = false) := by simp; omega
    rw [if_neg (by simp), if_neg e]
    by_cases h4 : t.phase = 0
    · rw [if_pos h4, if_pos h4]
    by_cases h5 : t.phase = 1
    · rw [if_neg h4, if_pos h5, if_neg h4, if_pos h5]
    rw [if_neg h4, if_neg h5, if_neg h4, if_neg h5]
    have hM := may_spec.1 hm
    have hr := (shd_range t.sender x.config.shards).2 (by have := (sCfg_spec.1 hM.cfg).1; omega)
    by_cases h6 : 0 ≤ sK t x
    · have hl : (sK t x).toNat < x.locks.length := by
        have := hM.llen
        have hr' : sK t x < x.config.shards := hr
        omega
      rw [if_pos h6, if_pos h6, List.getElem?_eq_getElem hl]
      simp [h6]
    · rw [if_neg h6]; simp [h6]

end Go.Vm

/- Layer 16, the program: a step of a task comes to what the plain step says. -/
set_option linter.unusedVariables false
set_option linter.unusedSimpArgs false
namespace Go.Vm
open Go Go.RowKit

theorem p_Clone_Shard (l : List Shard) (hl : l.length ≤ 1000000) : F_kb1 l = some l := by
  simp only [F_kb1, pk_kb1]
  have h8 : l.length * 32 ≤ 140737488355328 := by omega
  cases l with
  | nil => simp [wboth]
  | cons x l => rw [if_neg (List.cons_ne_nil _ _), if_pos h8, if_neg (List.cons_ne_nil _ _)]

theorem wf_small {n : Int} (h0 : -1 ≤ n) (h1 : n ≤ 255) : wf64 n = true := by
  unfold wf64 Lit.wf
  have e0 : IntKind.i64.min = -9223372036854775808 := by decide
  have e1 : IntKind.i64.max = 9223372036854775807 := by decide
  simp only [e0, e1, Bool.and_eq_true, decide_eq_true_eq]
  omega

theorem p_shard_Get {c : Config} {k : Int} {s : Shard} (h : sChkS c k s = true) {n : Int} (h0 : 0 ≤ n) (h1 : n ≤ 255) : F_ka8 s n = some (sGetA s.accounts n) := by
  simp only [sChkS, Bool.and_eq_true] at h
  have hl := accs_len h.2 (by omega)
  have hall : s.accounts.all (fun a => wf64 a.sender) = true := List.all_eq_true.2 fun a ha => by
    have := (sAcc_spec.1 (accs_mem h.2 a ha).1).1
    exact wf_small (by omega) (by omega)
  unfold F_ka8
  rw [if_pos ⟨wf_small (by omega) h1, hall, by omega⟩]

theorem p_task_Step {o : Op} {t : Task} {who : Int} {x : Sight} (h : TInv o t x) (hd : o.data.size ≤ 1048576) : F_kc3 t who x = some (sStep t who x) := by
  have hsx := may_sh h.may
  have hab := p_task_Able t who x hsx
  cases ha : sAble t who x with
  | false => rw [ha] at hab; rw [w_task_Step_no t who x hab]; unfold sStep; rw [if_pos ha]
  | true =>
  rw [ha] at hab
  obtain ⟨hw, hp0, hp5, hm, hfr, hk⟩ := able_spec ha
  have hS : Short (L t.op.data) := by rw [h.op]; simp only [Short]; rw [L_len]; omega
  have hcf := sCfg_spec.1 hm.cfg
  have hll := hm.llen
  have hsl := hm.slen
  have hsn := h.snd
  have hpl := h.plan
  have hsee := see_few h ha
  have hops := h.op
  obtain ⟨op, ph, sd, pl, rs, pt⟩ := t
  simp only at hp0 hp5 hfr hk hS hsn hpl hsee
  unfold sStep
  rw [if_neg (by simp [ha])]
  by_cases h0 : ph = 0
  · subst h0
    rw [(w_task_Step_p0).2 _ _ _ hab rfl, if_pos rfl]
    simp only [w_task_Step_p0, hab, Option.bind_some, Bool.true_eq_false, if_false, p_task_shard, p_look_Whose _ hS, p_look_Look x.config ⟨-1, 0, []⟩ op (by simp) hS]
    cases hwh : (sWhose op.kind op.sender (L op.data)).2 with
    | true => simp only [Bool.true_eq_false, if_false, if_true]
    | false => simp only [if_true, Bool.false_eq_true, if_false]; rfl
  rw [if_neg h0]
  by_cases h1 : ph = 1
  · subst h1
    obtain ⟨k0, k1⟩ := free_spec (hfr rfl)
    have hkk : (((sK (⟨op, 1, sd, pl, rs, pt⟩ : Task) x).toNat : Nat) : Int) = sK (⟨op, 1, sd, pl, rs, pt⟩ : Task) x := by omega
    have hT := p_lock_Take x.locks _ who k1 (by omega) hw
    rw [hkk] at hT
    rw [(w_task_Step_p1).2 _ _ _ hab rfl, if_pos rfl]
    simp only [w_task_Step_p1, hab, Option.bind_some, Bool.true_eq_false, if_false, p_task_shard, hT]
  rw [if_neg h1]
  obtain ⟨k0, k1⟩ := hk (by omega)
  have hkl := len_of k1
  by_cases h2 : ph = 2
  · subst h2
    obtain ⟨ks, hks⟩ : ∃ k, k = sK (⟨op, 2, sd, pl, rs, pt⟩ : Task) x := ⟨_, rfl⟩
    rw [← hks] at k0 k1 hkl
    have hs : ks.toNat < x.shards.length := by omega
    have hg := List.getElem?_eq_getElem hs
    have e : sShard (⟨op, 2, sd, pl, rs, pt⟩ : Task) x = x.shards[ks.toNat] := by unfold sShard; rw [← hks, hg]; rfl
    have hc := hm.sh _ _ hg
    obtain ⟨s0, s1⟩ := hsn (by omega) (by omega)
    obtain ⟨q1, q2⟩ := hsee rfl
    rw [e] at q1
    have hT : Tiny (sGetA (x.shards[ks.toNat]).accounts sd).txs := by have := (sAcc_spec.1 q1).1; simp only [Tiny]; omega
    rw [(w_task_Step_p2).2 _ _ _ hab rfl, if_pos rfl]
    simp only [w_task_Step_p2, hab, Option.bind_some, Bool.true_eq_false, if_false, p_task_shard, ← hks, k0, if_true, hg, p_shard_Get hc s0 s1, p_look_Look _ _ op hT hS]
    rw [show sSee (⟨op, 2, sd, pl, rs, pt⟩ : Task) x = sLook x.config (sGetA (x.shards[ks.toNat]).accounts sd) op.kind op.nonce (L op.data) from by unfold sSee; rw [e]]
    cases hch : (sLook x.config (sGetA (x.shards[ks.toNat]).accounts sd) op.kind op.nonce (L op.data)).changes with
    | true => simp only [Bool.true_eq_false, if_false, if_true]
    | false => simp only [if_true, Bool.false_eq_true, if_false]; rfl
  rw [if_neg h2]
  by_cases h3 : ph = 3
  · subst h3
    obtain ⟨_, _, d0, d1⟩ := hpl (.inl rfl)
    rw [(w_task_Step_p3).2 _ _ _ hab rfl, if_pos rfl]
    simp only [w_task_Step_p3, hab, Option.bind_some, Bool.true_eq_false, if_false, p_task_shard, p_pot_Adjust x.pot pl.delta (by omega), p_look_Full]
    by_cases hz : (sAdj x.pot pl.delta).2 = 0
    · rw [if_pos hz, if_pos hz]; rfl
    · rw [if_neg hz, if_neg hz]; rfl
  rw [if_neg h3]
  by_cases h4 : ph = 4
  · subst h4
    obtain ⟨ks, hks⟩ : ∃ k, k = sK (⟨op, 4, sd, pl, rs, pt⟩ : Task) x := ⟨_, rfl⟩
    rw [← hks] at k0 k1 hkl
    have hs : ks.toNat < x.shards.length := by omega
    have hg := List.getElem?_eq_getElem hs
    have e : sShard (⟨op, 4, sd, pl, rs, pt⟩ : Task) x = x.shards[ks.toNat] := by unfold sShard; rw [← hks, hg]; rfl
    have hc := hm.sh _ _ hg
    have hfew : (x.shards[ks.toNat]).accounts.length ≤ 1000000 := by
      simp only [sChkS, Bool.and_eq_true] at hc
      have := accs_len hc.2 (by omega)
      omega
    have hi : 0 ≤ ks ∧ ks < (x.shards.length : Int) := by omega
    rw [(w_task_Step_p4).2 _ _ _ hab rfl, if_pos rfl]
    simp only [w_task_Step_p4, hab, Option.bind_some, Bool.true_eq_false, if_false, p_task_shard, ← hks, p_Clone_Shard x.shards (by omega), hi, and_self, if_true, hg, p_shard_Set _ _ hfew, hs, e]
  rw [if_neg h4]
  obtain rfl : ph = 5 := by omega
  have hkk : (((sK (⟨op, 5, sd, pl, rs, pt⟩ : Task) x).toNat : Nat) : Int) = sK (⟨op, 5, sd, pl, rs, pt⟩ : Task) x := by omega
  have hT := p_lock_Give x.locks _ who k1 (by omega) hw
  rw [hkk] at hT
  rw [(w_task_Step_p5).2 _ _ _ hab rfl]
  simp only [w_task_Step_p5, hab, Option.bind_some, Bool.true_eq_false, if_false, p_task_shard, hT]

end Go.Vm

/- Layer 16, the document's small functions: few, the same, own and told. -/
set_option linter.unusedVariables false
set_option linter.unusedSimpArgs false
namespace Go.Vm
open Go Go.RowKit

theorem loop_done {α β : Type} {fin : Option β} : ∀ (k : List α) (i : Nat), loopL (γ := Unit) (fun _ _ _ => some (.inl ())) (fun _ => fin) i () k = fin
  | [], _ => rfl
  | _ :: k, i => loop_done k (i + 1)

theorem allI_true {α : Type} : ∀ (l : List α) (i : Nat), allI (fun _ _ => true) i l = true
  | [], _ => rfl
  | _ :: l, i => by unfold allI; rw [allI_true l (i + 1)]; rfl

theorem take_nx {α : Type} {l : List α} {i : Nat} {a : α} (h : l[i]? = some a) : l.take i ++ [a] = l.take (i + 1) := by
  rw [List.take_add_one, h]; rfl

theorem p_law11_Own (l : List Shard) (hl : l.length ≤ 1048576) : F_k1d l = some l := by
  simp only [F_k1d, pk_k1d]
  refine run_bind (γ := Unit) l (fun i _ => ⟨l, i, [], l.take i⟩) (fun _ _ _ => some (.inl ())) (fun _ => some (.inl ⟨l, l.length, [], l.take l.length⟩)) () rfl ?_ ?_ ?_
  · intro i c a ha
    obtain ⟨g1, g2, g3, g4⟩ := at_ ha (sh_of hl)
    have hil := (List.getElem?_eq_some_iff.1 ha).1
    have hr : ((l.take i).length + 1) * 32 ≤ 140737488355328 := by rw [List.length_take]; omega
    simp only [g1, g2, g3, g4, ha, if_true, Option.bind_some, hr, take_nx ha]
  · intro c; simp; try rfl
  · rw [loop_done]
    simp [selim]

theorem p_law16_OwnSight (x : Sight) (h : ShX x) : F_k2d x = some x := by
  simp only [F_k2d, pk_k2d, p_law11_Own _ h.2.1, Option.bind_some]

theorem p_law16_ToldSight (x : Sight) (h : ShX x) : F_k33 x = some x := by
  simp only [F_k33, pk_k33]
  refine run_bind (γ := Unit) x.shards (fun i _ => { i := i, s_ := x, config_shards := 0, config_soft := 0, config_hard := 0, config_per := 0, config_bump := 0, config_feed := 0, config_workers := 0, config_room := 0, pot_taken := 0, pot_most := 0, o2 := x.shards.take i, config_shards2 := x.config.shards, config_soft2 := x.config.soft, config_hard2 := x.config.hard, config_per2 := x.config.per, config_bump2 := x.config.bump, config_feed2 := x.config.feed, config_workers2 := x.config.workers, config_room2 := x.config.room, locks := x.locks, pot_taken2 := x.pot.taken, pot_most2 := x.pot.most }) (fun _ _ _ => some (.inl ())) (fun _ => some (.inl { i := x.shards.length, s_ := x, config_shards := 0, config_soft := 0, config_hard := 0, config_per := 0, config_bump := 0, config_feed := 0, config_workers := 0, config_room := 0, pot_taken := 0, pot_most := 0, o2 := x.shards.take x.shards.length, config_shards2 := x.config.shards, config_soft2 := x.config.soft, config_hard2 := x.config.hard, config_per2 := x.config.per, config_bump2 := x.config.bump, config_feed2 := x.config.feed, config_workers2 := x.config.workers, config_room2 := x.config.room, locks := x.locks, pot_taken2 := x.pot.taken, pot_most2 := x.pot.most })) () rfl ?_ ?_ ?_
  · intro i c a ha
    obtain ⟨g1, g2, g3, g4⟩ := at_ ha (sh_of h.2.1)
    have hil := (List.getElem?_eq_some_iff.1 ha).1
    have hr : ((x.shards.take i).length + 1) * 32 ≤ 140737488355328 := by have := h.2.1; rw [List.length_take]; omega
    simp only [g1, g2, g3, g4, ha, if_true, Option.bind_some, hr, take_nx ha]
  · intro c; simp; try rfl
  · rw [loop_done]
    simp [selim]

theorem p_r11_Few (l : List Acc) (m : Int) (h : l.length ≤ 1048576 ∧ ∀ a ∈ l, a.txs.length ≤ 1048576) : ∃ b, F_k7b l m = some b := by
  simp only [F_k7b, pk_k7b]
  refine ⟨_, all_run l (fun i => (⟨l, m, i⟩ : L_k7b_0)) (fun _ a => sFew a.txs 20) rfl ?_ ?_ rfl⟩
  · intro i a ha
    obtain ⟨g1, g2, g3, g4⟩ := at_ ha (sh_of h.1)
    simp only [g1, g2, g3, g4, ha, if_true, Option.bind_some, p_r04_Few a.txs 20 (sh_of (h.2 a (List.mem_of_getElem? ha)))]
    cases sFew a.txs 20 <;> (simp; try rfl)
  · simp; try rfl

theorem p_r16_Small (x : Sight) (h : ShX x) : ∃ b, F_ka3 x = some b := by
  simp only [F_ka3, pk_ka3]
  have hf : ∀ s : L_ka3_0, ∃ q, (if (s.s_.shards.length : Int) ≤ 10 then some (decide ((s.s_.locks.length : Int) ≤ 10)) else some false) = some q := by
    intro s; split <;> exact ⟨_, rfl⟩
  obtain ⟨q, hq⟩ := hf ⟨x.shards.length, x⟩
  have hfew : ∃ f : Acc → Bool, True := ⟨fun _ => true, trivial⟩
  obtain ⟨f, hfe⟩ : ∃ f : Shard → Bool, ∀ s ∈ x.shards, F_k7b s.accounts 20 = some (f s) := by
    refine ⟨fun s => (F_k7b s.accounts 20).getD false, fun s hs => ?_⟩
    obtain ⟨b, hb⟩ := p_r11_Few s.accounts 20 (h.2.2 s hs)
    show F_k7b s.accounts 20 = some ((F_k7b s.accounts 20).getD false)
    rw [hb]; rfl
  refine ⟨_, all_run x.shards (fun i => (⟨i, x⟩ : L_ka3_0)) (fun _ s => f s) rfl ?_ ?_ hq⟩
  · intro i a ha
    obtain ⟨g1, g2, g3, g4⟩ := at_ ha (sh_of h.2.1)
    simp only [g1, g2, g3, g4, ha, if_true, Option.bind_some, hfe a (List.mem_of_getElem? ha)]
    cases f a <;> (simp; try rfl)
  · simp; try rfl

theorem p_r11_Accounts (l : List Acc) (h : l.length ≤ 1048576 ∧ ∀ a ∈ l, a.txs.length ≤ 1048576) : F_k79 l l = some true := by
  simp only [F_k79, pk_k79, if_true]
  refine (all_run (q := true) l (fun i => (⟨l, l, i⟩ : L_k79_0)) (fun _ _ => true) rfl ?_ ?_ rfl).trans (by rw [allI_true]; rfl)
  · intro i a ha
    obtain ⟨g1, g2, g3, g4⟩ := at_ ha (sh_of h.1)
    simp only [g1, g2, g3, g4, ha, if_true, Option.bind_some, p_r05_Same a (sh_of (h.2 a (List.mem_of_getElem? ha))), Bool.true_eq_false, if_false]; rfl
  · simp; try rfl

end Go.Vm

/- Layer 13, plain: slots, rows that may be, all shards in one row; what the pool does. -/
set_option linter.unusedVariables false
set_option linter.unusedSimpArgs false
namespace Go.Vm
open Go Go.RowKit

abbrev ShA (l : List Acc) : Prop := l.length ≤ 1048576 ∧ ∀ a ∈ l, a.txs.length ≤ 1048576

theorem accSlots_loop {β : Type} (fin : Int → Option β) : ∀ (l : List Acc) (i : Nat) (n : Int), (∀ a ∈ l, a.txs.length ≤ 1048576) → i + l.length ≤ 1048576 → 0 ≤ n → n ≤ 13631488 * (i : Int) →
    loopL (fun _ n a => some (.inl (IntKind.i64.wrap (n + sQ a.txs)))) fin i n l = fin (n + sSlots l)
  | [], i, n, _, _, _, _ => by simp [loopL, slots_nil]
  | a :: l, i, n, ha, h, h0, h1 => by
    simp only [List.length_cons] at h
    have hq := sQ_range a.txs
    have hl := ha a List.mem_cons_self
    unfold loopL
    simp only
    rw [wrap64 (by omega) (by omega), accSlots_loop fin l (i + 1) _ (fun x hx => ha x (List.mem_cons_of_mem _ hx)) (by omega) (by omega) (by omega), slots_cons, Int.add_assoc]

theorem slots_range : ∀ {l : List Acc}, 0 ≤ sSlots l
  | [] => by simp [slots_nil]
  | a :: l => by rw [slots_cons]; have := (sQ_range a.txs).1; have := slots_range (l := l); omega

theorem slots_most : ∀ {l : List Acc}, (∀ a ∈ l, a.txs.length ≤ 1048576) → sSlots l ≤ 13631488 * (l.length : Int)
  | [], _ => by simp [slots_nil]
  | a :: l, h => by
    have := (sQ_range a.txs).2
    have := h a List.mem_cons_self
    have := slots_most (l := l) fun x hx => h x (List.mem_cons_of_mem _ hx)
    rw [slots_cons, List.length_cons]; omega

theorem p_shard_Slots (s : Shard) (h : ShS s) : F_kad s = some (sSlots s.accounts) := by
  simp only [F_kad, pk_kad]
  refine run_bind (γ := Int) s.accounts (fun i n => ⟨n, s.accounts, s.accounts.length, i, s⟩) (fun i n a => some (.inl (IntKind.i64.wrap (n + sQ a.txs)))) (fun n => some (.inl ⟨n, s.accounts, s.accounts.length, s.accounts.length, s⟩)) 0 rfl ?_ ?_ ?_
  · intro i c t ht
    obtain ⟨h1, h2, h3, h4⟩ := at_ ht (sh_of h.1)
    simp only [h1, h2, h3, h4, ht, if_true, Option.bind_some, p_queue_Slots t (sh_of (h.2 t (List.mem_of_getElem? ht)))]
  · intro c; simp
  · refine (congrArg (fun x => Option.bind x _) (accSlots_loop _ s.accounts 0 0 h.2 (by have := h.1; omega) (by omega) (by omega))).trans ?_
    simp [selim]

theorem p_r11_Slots (s : Shard) (h : ShS s) : F_k81 s = some (sSlots s.accounts) := by
  simp only [F_k81, pk_k81]
  refine run_bind (γ := Int) s.accounts (fun i n => ⟨n, i, s⟩) (fun i n a => some (.inl (IntKind.i64.wrap (n + sQ a.txs)))) (fun n => some (.inl ⟨n, s.accounts.length, s⟩)) 0 rfl ?_ ?_ ?_
  · intro i c t ht
    obtain ⟨h1, h2, h3, h4⟩ := at_ ht (sh_of h.1)
    simp only [h1, h2, h3, h4, ht, if_true, Option.bind_some, p_r05_Slots t (sh_of (h.2 t (List.mem_of_getElem? ht)))]
  · intro c; simp
  · refine (congrArg (fun x => Option.bind x _) (accSlots_loop _ s.accounts 0 0 h.2 (by have := h.1; omega) (by omega) (by omega))).trans ?_
    simp [selim]

theorem p_pool_Slots (l : List Acc) (h : ShA l) : F_k4b l = some (sSlots l) := p_shard_Slots ⟨l, 0⟩ h
theorem p_r13_Slots (l : List Acc) (h : ShA l) : F_k90 l = some (sSlots l) := p_r11_Slots ⟨l, 0⟩ h

theorem accs1 {per last : Int} {a : Acc} {l : List Acc} : sAccs per 1 0 last (a :: l) = ((sAcc a per && !emp a && decide (last < a.sender)) && sAccs per 1 0 a.sender l) := by
  simp only [sAccs]
  cases h : sAcc a per with
  | false => simp
  | true =>
    have hb := (sAcc_spec.1 h).1
    simp [shd_one hb.1 hb.2.1]

theorem pacc_loop (c : Config) (L : List Acc) : ∀ (l : List Acc) (i : Nat) (last : Int),
    (loopL (β := L_k47_0 ⊕ Bool) (fun _ (last : Int) (a : Acc) => some (if (sAcc a c.per && !emp a && decide (last < a.sender)) = true then .inl a.sender else .inr (.inr false))) (fun last => some (.inl ⟨last, L, L.length, L.length, c⟩)) i last l).bind (selim (fun s => some true) fun n => some n) = some (sAccs c.per 1 0 last l)
  | [], i, last => rfl
  | a :: l, i, last => by
    unfold loopL
    rw [accs1]
    by_cases h : (sAcc a c.per && !emp a && decide (last < a.sender)) = true
    · simp only [h, if_true, Bool.true_and]; exact pacc_loop c L l (i + 1) a.sender
    · simp [h, selim]

theorem p_pool_Check (c : Config) (l : List Acc) (h : ShA l) : F_k47 c l = some (sPool c l) := by
  simp only [F_k47, pk_k47, p_pool_Config, p_pool_Slots l h, Option.bind_some, sPool]
  cases hc : sCfg c with
  | false => simp
  | true =>
    by_cases hs : c.hard < sSlots l
    · simp [hs, show ¬ sSlots l ≤ c.hard by omega]
    rw [decide_eq_true (show sSlots l ≤ c.hard by omega)]
    simp only [Bool.true_eq_false, if_false, hs, Bool.true_and]
    refine run_bind (γ := Int) l (fun i last => ⟨last, l, l.length, i, c⟩) (fun _ last a => some (if (sAcc a c.per && !emp a && decide (last < a.sender)) = true then .inl a.sender else .inr (.inr false))) (fun last => some (.inl ⟨last, l, l.length, l.length, c⟩)) (-1) rfl ?_ ?_ ?_
    · intro i last a ha
      obtain ⟨h1, h2, h3, h4⟩ := at_ ha (sh_of h.1)
      have hm := List.mem_of_getElem? ha
      simp only [h1, h2, h3, h4, ha, if_true, Option.bind_some, p_queue_Check a c.per (sh_of (h.2 a hm))]
      by_cases g1 : sAcc a c.per = true
      · by_cases hb : a.base = 0
        · by_cases ht : a.txs = []
          · simp [g1, hb, ht, emp]
          · by_cases g3 : last < a.sender
            · have g5 : ¬ a.sender ≤ last := by omega
              simp [g1, hb, ht, emp, g3, g5]
            · have g5 : a.sender ≤ last := by omega
              simp [g1, hb, ht, emp, g3, g5]
        · by_cases g3 : last < a.sender
          · have g5 : ¬ a.sender ≤ last := by omega
            simp [g1, hb, emp, g3, g5]
          · have g5 : a.sender ≤ last := by omega
            simp [g1, hb, emp, g3, g5]
      · simp [g1]
    · intro last; simp
    · exact pacc_loop c l l 0 (-1)

theorem rpacc_loop (c : Config) (L : List Acc) : ∀ (l : List Acc) (i : Nat), L.drop i = l → ∀ last, (i = 0 → last = -1) → (0 < i → ∃ p, L[i - 1]? = some p ∧ last = p.sender) → -1 ≤ last →
    (loopL (γ := Unit) (β := L_k89_0 ⊕ Bool) (fun i _ (a : Acc) => if (sAcc a c.per && !emp a) = true then (if 0 < i then (match L[i - 1]? with | some p => if a.sender ≤ p.sender then some (.inr (.inr false)) else some (.inl ()) | none => none) else some (.inl ())) else some (.inr (.inr false))) (fun _ => some (.inl ⟨L, L.length, c⟩)) i () l).bind (selim (fun s => some true) fun n => some n) = some (sAccs c.per 1 0 last l)
  | [], i, hd, last, h0, h1, hl => rfl
  | a :: l, i, hd, last, h0, h1, hl => by
    obtain ⟨ht, hd', hil⟩ := drop_head hd
    unfold loopL
    rw [accs1]
    by_cases h : (sAcc a c.per && !emp a) = true
    · have hs := h
      simp only [Bool.and_eq_true] at hs
      have hb := (sAcc_spec.1 hs.1).1
      have ih := rpacc_loop c L l (i + 1) hd' a.sender (fun h => by omega) (fun _ => ⟨a, by simpa using ht, rfl⟩) (by omega)
      simp only [h, if_true, Bool.true_and]
      by_cases hi0 : i = 0
      · have e := h0 hi0
        have g : last < a.sender := by omega
        simp only [show ¬ 0 < i from by omega, if_false, g, decide_true, Bool.true_and]
        exact ih
      · obtain ⟨p, hp, he⟩ := h1 (by omega)
        simp only [show 0 < i from by omega, if_true, hp]
        by_cases g : a.sender ≤ p.sender
        · have g2 : ¬ last < a.sender := by omega
          simp [g, g2, selim]
        · have g2 : last < a.sender := by omega
          simp only [g, if_false, g2, decide_true, Bool.true_and]
          exact ih
    · simp [h, selim]

theorem p_r13_Check (c : Config) (l : List Acc) (h : ShA l) : F_k89 c l = some (sPool c l) := by
  simp only [F_k89, pk_k89, p_r13_Config, p_r13_Slots l h, Option.bind_some, sPool]
  cases hc : sCfg c with
  | false => simp
  | true =>
    by_cases hs : c.hard < sSlots l
    · simp [hs, show ¬ sSlots l ≤ c.hard by omega]
    rw [decide_eq_true (show sSlots l ≤ c.hard by omega)]
    simp only [Bool.true_eq_false, if_false, hs, Bool.true_and]
    refine run_bind (γ := Unit) l (fun i _ => ⟨l, i, c⟩) (fun i _ (a : Acc) => if (sAcc a c.per && !emp a) = true then (if 0 < i then (match l[i - 1]? with | some p => if a.sender ≤ p.sender then some (.inr (.inr false)) else some (.inl ()) | none => none) else some (.inl ())) else some (.inr (.inr false))) (fun _ => some (.inl ⟨l, l.length, c⟩)) () rfl ?_ ?_ ?_
    · intro i _ a ha
      obtain ⟨h1, h2, h3, h4⟩ := at_ ha (sh_of h.1)
      have hm := List.mem_of_getElem? ha
      have hil := (List.getElem?_eq_some_iff.1 ha).1
      simp only [h1, h2, h3, h4, ha, if_true, Option.bind_some, p_r05_Check a c.per (sh_of (h.2 a hm))]
      have key : ∀ (hi0 : ¬ i = 0), IntKind.i64.wrap ((i : Int) - 1) = ((i - 1 : Nat) : Int) ∧ (0 : Int) < (i : Int) ∧ 0 < i ∧ l[i - 1]? = some (l[i - 1]'(by omega)) ∧ (0 : Int) ≤ ((i - 1 : Nat) : Int) ∧ ((i - 1 : Nat) : Int).toNat = i - 1 := by
        intro hi0
        have hh := h.1
        refine ⟨?_, by omega, by omega, List.getElem?_eq_getElem (by omega), by omega, by omega⟩
        rw [wrap64 (by omega) (by omega)]; omega
      by_cases g1 : sAcc a c.per = true
      · by_cases hb : a.base = 0
        · by_cases ht : a.txs = []
          · simp [g1, hb, ht, emp]
          · by_cases hi0 : i = 0
            · subst hi0
              simp [g1, hb, ht, emp]
            · obtain ⟨e1, e2, e3, e5, e6, e7⟩ := key hi0
              simp only [g1, hb, ht, emp, e1, e2, e3, e5, e6, e7, Bool.true_eq_false, if_false, if_true, Option.bind_some, and_false, decide_false, Bool.not_false, Bool.and_true, Bool.true_and]
              by_cases g : a.sender ≤ (l[i - 1]'(by omega)).sender <;> simp [g]
        · by_cases hi0 : i = 0
          · subst hi0
            simp [g1, hb, emp]
          · obtain ⟨e1, e2, e3, e5, e6, e7⟩ := key hi0
            simp only [g1, hb, emp, e1, e2, e3, e5, e6, e7, Bool.true_eq_false, if_false, if_true, Option.bind_some, false_and, decide_false, Bool.not_false, Bool.and_true, Bool.true_and]
            by_cases g : a.sender ≤ (l[i - 1]'(by omega)).sender <;> simp [g]
      · simp [g1]
    · intro _; simp
    · exact rpacc_loop c l l 0 rfl (-1) (fun _ => rfl) (fun h => by omega) (by omega)

theorem p_r11_Get (s : Shard) (n : Int) (h : ShS s) : F_k7c s n = some (sGetA s.accounts n) := by
  simp only [F_k7c, pk_k7c]
  have key : ∀ (k : List Acc) (i : Nat), (loopL (γ := Unit) (β := L_k7c_0 ⊕ Acc) (fun _ _ (a : Acc) => if a.sender = n then some (.inr (.inr a)) else some (.inl ())) (fun _ => some (.inl ⟨n, s.accounts.length, s, 0, 0⟩)) i () k).bind (selim (fun s => some { sender := s.sender, base := 0, txs := [] }) fun r => some r) = some (sGetA k n) := by
    intro k
    induction k with
    | nil => intro i; rfl
    | cons a k ih =>
      intro i
      unfold loopL
      by_cases hn : a.sender = n
      · simp [hn, selim, sGetA]
      · simp only [hn, if_false]
        rw [ih (i + 1)]
        simp [sGetA, List.find?_cons, hn]
  refine run_bind (γ := Unit) s.accounts (fun i _ => ⟨n, i, s, 0, 0⟩) (fun _ _ (a : Acc) => if a.sender = n then some (.inr (.inr a)) else some (.inl ())) (fun _ => some (.inl ⟨n, s.accounts.length, s, 0, 0⟩)) () rfl ?_ ?_ (key s.accounts 0)
  · intro i _ a ha
    obtain ⟨h1, h2, h3, h4⟩ := at_ ha (sh_of h.1)
    simp only [h1, h2, h3, h4, ha, if_true, Option.bind_some]
    by_cases hn : a.sender = n <;> simp [hn]
  · intro _; simp

theorem room40 {n : Nat} (h : n ≤ 1099511627800) : n * 40 ≤ 140737488355328 := Nat.le_trans (Nat.mul_le_mul_right 40 h) (by decide)

theorem put_loop (x : Acc) (G : L_k84_0 ⊕ List Acc → Option (List Acc)) (st : Bool → List Acc → L_k84_0) (hG0 : ∀ out, out.length ≤ 1099511627780 → G (.inl (st false out)) = some (out ++ [x])) (hG1 : ∀ out, G (.inl (st true out)) = some out) :
    ∀ (k : List Acc) (i : Nat) (laid : Bool) (out : List Acc), out.length ≤ (if laid = true then i + 1 else i) → i + k.length ≤ 1099511627776 →
    (loopL (γ := Bool × List Acc) (β := L_k84_0 ⊕ List Acc) (fun _ c (a : Acc) => if c.1 = false ∧ x.sender < a.sender then (if (c.2.length + 1) * 40 ≤ 140737488355328 ∧ (c.2.length + 1 + 1) * 40 ≤ 140737488355328 then some (.inl (true, c.2 ++ [x, a])) else none) else if (c.2.length + 1) * 40 ≤ 140737488355328 then some (.inl (c.1, c.2 ++ [a])) else none) (fun c => some (.inl (st c.1 c.2))) i (laid, out) k).bind G = some (if laid = true then out ++ k else out ++ sInsA x k)
  | [], i, laid, out, h1, h2 => by
    simp only [List.length_nil] at h2
    cases laid with
    | false => simp at h1; simp only [loopL, Option.bind_some, hG0 out (by omega)]; simp [sInsA]
    | true => simp only [loopL, Option.bind_some, hG1]; simp
  | a :: k, i, laid, out, h1, h2 => by
    simp only [List.length_cons] at h2
    have h1' : out.length ≤ i + 1 := by split at h1 <;> omega
    have r1 : (out.length + 1) * 40 ≤ 140737488355328 := room40 (by omega)
    have r2 : (out.length + 1 + 1) * 40 ≤ 140737488355328 := room40 (by omega)
    unfold loopL
    cases laid with
    | true =>
      simp only [Bool.true_eq_false, false_and, if_false, r1, if_true]
      rw [put_loop x G st hG0 hG1 k (i + 1) true _ (by simp at h1 ⊢; omega) (by omega)]
      simp
    | false =>
      by_cases hx : x.sender < a.sender
      · simp only [hx, and_self, if_true, r1, r2]
        rw [put_loop x G st hG0 hG1 k (i + 1) true _ (by simp at h1 ⊢; omega) (by omega)]
        simp [sInsA, hx]
      · simp only [hx, and_false, if_false, r1, if_true]
        rw [put_loop x G st hG0 hG1 k (i + 1) false _ (by simp at h1 ⊢; omega) (by omega)]
        simp [sInsA, hx]

theorem p_r11_put (l : List Acc) (x : Acc) (h : l.length ≤ 1048576) : F_k84 l x = some (sInsA x l) := by
  simp only [F_k84, pk_k84]
  refine run_bind (γ := Bool × List Acc) l (fun i c => ⟨l, c.1, i, x, [], c.2⟩) (fun _ c (a : Acc) => if c.1 = false ∧ x.sender < a.sender then (if (c.2.length + 1) * 40 ≤ 140737488355328 ∧ (c.2.length + 1 + 1) * 40 ≤ 140737488355328 then some (.inl (true, c.2 ++ [x, a])) else none) else if (c.2.length + 1) * 40 ≤ 140737488355328 then some (.inl (c.1, c.2 ++ [a])) else none) (fun c => some (.inl ⟨l, c.1, l.length, x, [], c.2⟩)) (false, []) rfl ?_ ?_ ?_
  · intro i c a ha
    obtain ⟨h1, h2, h3, h4⟩ := at_ ha (sh_of h)
    obtain ⟨c1, c2⟩ := c
    simp only [h1, h2, h3, h4, ha, if_true, Option.bind_some]
    cases c1 with
    | true => simp; split <;> rfl
    | false =>
      by_cases hx : x.sender < a.sender
      · by_cases g1 : (c2.length + 1) * 40 ≤ 140737488355328 <;> by_cases g2 : (c2.length + 1 + 1) * 40 ≤ 140737488355328 <;> simp [hx, g1, g2]
      · simp [hx]; split <;> rfl
  · intro c; simp
  · refine (put_loop x _ (fun b o => ⟨l, b, l.length, x, [], o⟩) ?_ ?_ l 0 false [] (by simp) (by omega)).trans (by simp)
    · intro out ho
      have r1 : (out.length + 1) * 40 ≤ 140737488355328 := room40 (by omega)
      simp [selim, r1]
    · intro out; simp [selim]

theorem q_cons (t : Tx) (l : List Tx) : sQ (t :: l) = sTs t + sQ l := by simp [sQ]
theorem q_ins (t : Tx) : ∀ l : List Tx, sQ (sIns t l) = sQ l + sTs t
  | [] => by simp [sIns, sQ]
  | x :: l => by
    unfold sIns
    split
    · rw [q_cons, q_cons]; omega
    · rw [q_cons, q_cons, q_ins t l]; omega

theorem q_rep (t : Tx) : ∀ l : List Tx, (sFind l t.nonce).2 = true → sQ (sRep t l) = sQ l - sTs (sFind l t.nonce).1 + sTs t
  | [], h => by simp [sFind] at h
  | x :: l, h => by
    unfold sRep
    by_cases hx : x.nonce = t.nonce
    · have hf : sFind (x :: l) t.nonce = (x, true) := by simp [sFind, hx]
      rw [if_pos hx, hf, q_cons, q_cons]; simp only; omega
    · have hf : sFind (x :: l) t.nonce = sFind l t.nonce := by simp [sFind, List.find?_cons, hx]
      rw [hf] at h ⊢
      rw [if_neg hx, q_cons, q_cons, q_rep t l h]; omega

theorem place_delta {a : Acc} {t : Tx} {per bump : Int} (h : (sPlace a t per bump).2 = 0) : (sPlace a t per bump).1 = sQ (sPut a t).txs - sQ a.txs := by
  unfold sPlace at h ⊢
  simp only [sPut, sPutL]
  split at h
  · simp at h
  rename_i g1
  rw [if_neg g1]
  split at h
  · simp at h
  rename_i g2
  rw [if_neg g2]
  split at h
  · simp at h
  rename_i g3
  rw [if_neg g3]
  split at h
  · simp at h
  rename_i g4
  rw [if_neg g4]
  split at h
  · simp at h
  rename_i g5
  rw [if_neg g5]
  split at h
  · rename_i g6
    rw [if_pos g6, if_pos g6]
    split at h
    · simp at h
    rename_i g7
    rw [if_neg g7]
    split at h
    · simp at h
    rename_i g8
    rw [if_neg g8, q_rep t a.txs g6]; simp only; omega
  · rename_i g6
    rw [if_neg g6, if_neg g6]
    split at h
    · simp at h
    rename_i g7
    rw [if_neg g7, q_ins]; simp only; omega

end Go.Vm

/- Layer 13, plain: Add, Remove, Advance, Get of the pool. -/
set_option linter.unusedVariables false
set_option linter.unusedSimpArgs false
namespace Go.Vm
open Go Go.RowKit

theorem row_same {l : List Acc} (h : Rise l) (hne : ∀ a ∈ l, emp a = false) (s : Int) : sSetL l (sGetA l s) = l := by
  refine rise_ext (rise_set h) h fun x => ?_
  rw [mem_set]
  by_cases hx : ∃ a ∈ l, a.sender = s
  · obtain ⟨a, ha, rfl⟩ := hx
    rw [getA_mem h ha]
    constructor
    · rintro (⟨rfl, _⟩ | ⟨h1, _⟩)
      · exact ha
      · exact h1
    · intro hx
      by_cases e : x.sender = a.sender
      · have h1 := getA_mem h hx
        rw [e, getA_mem h ha] at h1
        exact .inl ⟨h1.symm, hne a ha⟩
      · exact .inr ⟨hx, e⟩
  · have hn : ∀ a ∈ l, a.sender ≠ s := fun a ha e => hx ⟨a, ha, e⟩
    rw [getA_none hn]
    constructor
    · rintro (⟨_, h1⟩ | ⟨h1, _⟩)
      · simp [emp] at h1
      · exact h1
    · exact fun hx => .inr ⟨hx, hn x hx⟩

theorem q_filter (p : Tx → Bool) : ∀ l : List Tx, sQ (l.filter p) ≤ sQ l
  | [] => by simp
  | x :: l => by
    have := q_filter p l
    have := (sTs_range x).1
    rw [List.filter_cons]
    split
    · rw [q_cons, q_cons]; omega
    · rw [q_cons]; omega

structure PoolS (c : Config) (l : List Acc) : Prop where
  cfg : sCfg c = true
  slots : sSlots l ≤ c.hard
  accs : sAccs c.per 1 0 (-1) l = true

theorem pool_spec {c : Config} {l : List Acc} : sPool c l = true ↔ PoolS c l := by
  simp only [sPool, Bool.and_eq_true, decide_eq_true_eq]
  exact ⟨fun h => ⟨h.1.1, h.1.2, h.2⟩, fun h => ⟨⟨h.cfg, h.slots⟩, h.accs⟩⟩

theorem PoolS.sh {c : Config} {l : List Acc} (h : PoolS c l) : ShA l := by
  have h1 := accs_len h.accs (by omega)
  have hc := sCfg_spec.1 h.cfg
  refine ⟨by omega, fun a ha => ?_⟩
  have := (sAcc_spec.1 (accs_mem h.accs a ha).1).1
  omega

theorem PoolS.rise {c : Config} {l : List Acc} (h : PoolS c l) : Rise l := (rise_accs h.accs).1
theorem PoolS.check {c : Config} {l : List Acc} (h : PoolS c l) : F_k47 c l = some true := by rw [p_pool_Check c l h.sh, pool_spec.2 h]

theorem PoolS.get {c : Config} {l : List Acc} (h : PoolS c l) {n : Int} (hn : wf64 n = true) (v : Int) : F_ka8 ⟨l, v⟩ n = some (sGetA l n) := by
  have h1 := accs_len h.accs (by omega)
  have hall : l.all (fun a => wf64 a.sender) = true := List.all_eq_true.2 fun a ha => by
    have := (sAcc_spec.1 (accs_mem h.accs a ha).1).1
    exact wf_small (by omega) (by omega)
  unfold F_ka8
  rw [if_pos ⟨hn, hall, by simp only; omega⟩]

theorem PoolS.set {c : Config} {l : List Acc} (h : PoolS c l) (a : Acc) : F_kaa ⟨l, 0⟩ a = some ⟨sSetL l a, 1⟩ := by
  have := h.sh.1
  have h1 := accs_len h.accs (by omega)
  rw [p_shard_Set ⟨l, 0⟩ a (by simp only; omega)]
  rfl

theorem PoolS.acc {c : Config} {l : List Acc} (h : PoolS c l) {s : Int} (h0 : 0 ≤ s) (h1 : s ≤ 255) : sAcc (sGetA l s) c.per = true ∧ (sGetA l s).sender = s := by
  have hc := sCfg_spec.1 h.cfg
  exact getA_acc h.accs h0 h1 (by omega)
theorem PoolS.out {c : Config} {l : List Acc} (h : PoolS c l) {s : Int} (hs : s < 0 ∨ 255 < s) : sGetA l s = ⟨s, 0, []⟩ := getA_none fun a ha e => by
  have := (sAcc_spec.1 (accs_mem h.accs a ha).1).1
  omega

theorem chk_mem {s : Int} : ∀ {l : List Tx} {nx : Int}, sChk s nx l = true → ∀ t ∈ l, t.sender = s ∧ sTx t = true
  | [], _, _, t, ht => by cases ht
  | x :: l, nx, h, t, ht => by
    simp only [sChk, Bool.and_eq_true, decide_eq_true_eq] at h
    rcases List.mem_cons.1 ht with rfl | ht
    · exact ⟨h.2.1, h.1⟩
    · exact chk_mem h.2.2.2 t ht

theorem find_mem {l : List Tx} {n : Int} (h : (sFind l n).2 = true) : (sFind l n).1 ∈ l ∧ (sFind l n).1.nonce = n := by
  unfold sFind at h ⊢
  cases hf : l.find? (fun t => decide (t.nonce = n)) with
  | none => rw [hf] at h; cases h
  | some t => exact ⟨List.mem_of_find?_eq_some hf, by simpa using List.find?_some hf⟩

theorem sShort {s : ByteArray} (h : s.size ≤ 1048576) : Short (L s) := by simp only [Short, L_len]; omega

theorem adv_tell {δ : Type} (s0 : L_k14_0) (h1 : s0.v43 = (s0.v42.length : Int)) (h2 : s0.v44 = 0) (h3 : s0.o5 = []) (hl : Short s0.v42) (G : L_k14_0 ⊕ L_k14_0 → Option δ) :
    (run (fun s : L_k14_0 => if s.v44 < s.v43 then if 0 ≤ s.v44 then s.v42[s.v44.toNat]?.bind fun a => if (s.o5.length + 1) * 72 ≤ 140737488355328 then some (Sum.inl { s with v44 := IntKind.i64.wrap (s.v44 + 1), o5 := s.o5 ++ [{ kind := 3, tx := a, n := 0 }] }) else none else none else some (Sum.inr (Sum.inl s))) s0).bind G = G (.inl { s0 with v44 := (s0.v42.length : Int), o5 := s0.v42.map dropEv }) := by
  refine run_bind (γ := List Event) s0.v42 (fun i c => { s0 with v44 := (i : Int), o5 := c }) (fun _ c t => if (c.length + 1) * 72 ≤ 140737488355328 then some (.inl (c ++ [dropEv t])) else none) (fun c => some (.inl { s0 with v44 := (s0.v42.length : Int), o5 := c })) [] (by rw [← h3]; show s0 = { s0 with v44 := ((0 : Nat) : Int) }; rw [show ((0 : Nat) : Int) = s0.v44 from h2.symm]) ?_ ?_ ?_
  · intro i c t ht
    obtain ⟨g1, g2, g3, g4⟩ := at_ ht hl
    simp only [h1, g1, g2, g3, g4, ht, if_true, Option.bind_some]
    split <;> rfl
  · intro c; simp [h1]
  · refine (congrArg (fun x => Option.bind x _) (loop_map dropEv _ s0.v42 0 [] (by have := hl; omega) (by simp))).trans ?_
    simp

theorem p_pool_Do {c : Config} {l : List Acc} {o : Op} (h : PoolS c l) (hk0 : 0 ≤ o.kind) (hk3 : o.kind ≤ 3) (hw : wf64 o.sender = true) (hd : o.data.size ≤ 1048576) :
    F_k49 c l o = some (sDo c l o.kind o.sender o.nonce (L o.data)) := by
  have hc := sCfg_spec.1 h.cfg
  have hP := h.check
  have hsh := h.sh
  have hr0 := slots_range (l := l)
  have hs := h.slots
  have hShort : ∀ s : Int, Short (sGetA l s).txs := by
    intro s
    by_cases hr : 0 ≤ s ∧ s ≤ 255
    · have := (sAcc_spec.1 (h.acc hr.1 hr.2).1).1
      simp only [Short]; omega
    · rw [h.out (by omega)]; simp
  obtain ⟨k, s, n, gas, data⟩ := o
  simp only at hk0 hk3 hw hd ⊢
  have hcase : k = 0 ∨ k = 1 ∨ k = 2 ∨ k = 3 := by omega
  rcases hcase with rfl | rfl | rfl | rfl
  · -- Add
    rw [w_pool_Do_k0.2 c l _ hP rfl]
    have hdec : F_kcf data = some (decR (sDec (L data))) := by
      have := p_txn_Decode (L data) (sShort hd)
      rwa [mk_L] at this
    simp only [w_pool_Do_k0, hdec, Option.bind_some]
    cases hsd : sDec (L data) with
    | none => simp [decR, sDo, sPlan, sWhose, hsd, sLook, sAdd, wrong, zTx]
    | some t =>
      have ht := sTx_spec (sDec_ok hsd)
      have hg := h.get (n := t.sender) (wf_small (by omega) (by omega)) 0
      have hsl := hShort t.sender
      simp only [decR, Bool.true_eq_false, if_false, hg, Option.bind_some, p_queue_Place _ t _ _ hsl, p_shard_Slots ⟨l, 0⟩ hsh, p_queue_Find _ _ hsl, p_queue_Put _ t hsl, h.set]
      have hwr : IntKind.i64.wrap (c.hard - sSlots l) = c.hard - sSlots l := wrap64 (by omega) (by omega)
      simp only [hwr]
      have hpl : sPlan c l 0 s n (L data) = sAdd c (sGetA l t.sender) (L data) := by simp [sPlan, sWhose, hsd, decR, sLook]
      simp only [sDo, hpl, sAdd, hsd]
      by_cases hz : (sPlace (sGetA l t.sender) t c.per c.bump).2 = 0
      · have hdl := place_delta hz
        simp only [hz, if_true, sTo, ← hdl]
        by_cases hf : c.hard - sSlots l < (sPlace (sGetA l t.sender) t c.per c.bump).1
        · simp [hf, zTx]
        · simp only [hf, if_false]
          cases hb : (sFind (sGetA l t.sender).txs t.nonce).2 with
          | true => simp [zRes, zTx]
          | false => simp [zRes, zTx]
      · simp [hz, wrong, zTx]
  · -- Remove
    rw [w_pool_Do_k1.2 c l _ hP rfl]
    simp only [w_pool_Do_k1, h.get hw 0, Option.bind_some, p_queue_Find _ _ (hShort s)]
    cases hb : (sFind (sGetA l s).txs n).2 with
    | false =>
      simp only [if_true]
      by_cases hr : 0 ≤ s ∧ s ≤ 255
      · have hpl : sPlan c l 1 s n (L data) = wrong 7 := by
          have e : ¬ (s < 0 ∨ 255 < s) := by omega
          simp [sPlan, sWhose, sLook, sDropP, hb, e, show ¬ s < 0 by omega, show ¬ 255 < s by omega]
        simp [sDo, hpl, wrong, zTx]
      · have hpl : sPlan c l 1 s n (L data) = wrong 7 := by
          have e : s < 0 ∨ 255 < s := by omega
          simp [sPlan, sWhose, sLook, sDropP, e, sFind]
        simp [sDo, hpl, wrong, zTx]
    | true =>
      have hr : 0 ≤ s ∧ s ≤ 255 := by
        by_cases hr : 0 ≤ s ∧ s ≤ 255
        · exact hr
        · rw [h.out (by omega)] at hb; simp [sFind] at hb
      obtain ⟨hacc, hsn⟩ := h.acc hr.1 hr.2
      obtain ⟨hm, hnn⟩ := find_mem hb
      have hts := (chk_mem (sAcc_spec.1 hacc).2 _ hm).1
      rw [hsn] at hts
      have hpl : sPlan c l 1 s n (L data) = sTo (sGetA l s) (sDrop (sGetA l s) n) [⟨3, (sFind (sGetA l s).txs n).1, 0⟩] ⟨0, (sFind (sGetA l s).txs n).1, [], 0⟩ true := by
        simp [sPlan, sWhose, sLook, sDropP, hb, show ¬ s < 0 by omega, show ¬ 255 < s by omega]
      have hq := q_filter (fun t => decide (t.nonce ≠ n)) (sGetA l s).txs
      have hle : ¬ c.hard - sSlots l < sQ (sDrop (sGetA l s) n).txs - sQ (sGetA l s).txs := by
        have : sQ (sDrop (sGetA l s) n).txs ≤ sQ (sGetA l s).txs := hq
        omega
      simp only [Bool.true_eq_false, if_false, hts, hnn, h.get hw 0, Option.bind_some, p_queue_Drop _ _ (hShort s), h.set, sDo, hpl, sTo, if_true, hle]
  · -- Advance
    rw [w_pool_Do_k2.2 c l _ hP rfl]
    simp only [w_pool_Do_k2, p_pool_in, Option.bind_some]
    by_cases hr : 0 ≤ s ∧ s ≤ 255
    · simp only [hr, and_self, decide_true, Bool.true_eq_false, if_false, h.get hw 0, Option.bind_some, p_queue_Advance _ _ (hShort s)]
      obtain ⟨hacc, hsn⟩ := h.acc hr.1 hr.2
      have hpl : sPlan c l 2 s n (L data) = sAdvP (sGetA l s) n := by
        simp [sPlan, sWhose, sLook, show ¬ s < 0 by omega, show ¬ 255 < s by omega]
      have hsr : ¬ ((sGetA l s).sender < 0 ∨ 255 < (sGetA l s).sender) := by omega
      by_cases hz : (sAdv (sGetA l s) n).2.2 = 0
      · simp only [hz, if_true, h.set, Option.bind_some]
        have hgl : Short (sAdv (sGetA l s) n).2.1 := Nat.le_trans (sAdv_len _ n).2 (hShort s)
        refine (adv_tell _ rfl rfl rfl hgl _).trans ?_
        simp only [selim, sDo, hpl, sAdvP, hsr, if_false, hz, if_true, sTo]
        have hq : sQ (sAdv (sGetA l s) n).1.txs ≤ sQ (sGetA l s).txs := by
          unfold sAdv
          split
          · exact Int.le_refl _
          · split
            · exact Int.le_refl _
            · exact q_filter _ _
        have hle : ¬ c.hard - sSlots l < sQ (sAdv (sGetA l s) n).1.txs - sQ (sGetA l s).txs := by omega
        by_cases hch : (sGetA l s).base < n ∨ 0 < (sAdv (sGetA l s) n).2.1.length
        · simp [hch, hle, zTx]
        · have hsame : (sAdv (sGetA l s) n).1 = sGetA l s ∧ (sAdv (sGetA l s) n).2.1 = [] := by
            have hg0 : (sAdv (sGetA l s) n).2.1 = [] := by
              cases hg : (sAdv (sGetA l s) n).2.1 with
              | nil => rfl
              | cons a b => rw [hg] at hch; simp at hch
            refine ⟨?_, hg0⟩
            revert hg0 hz hch
            unfold sAdv
            split
            · intro hz; simp at hz
            · split
              · intro hz; simp at hz
              · rename_i g1 g2
                intro _ hch hg0
                simp only at hch hg0 ⊢
                have hb : n = (sGetA l s).base := by omega
                have hft : ((sGetA l s).txs.filter fun t => !decide (t.nonce < n)) = (sGetA l s).txs := by
                  refine List.filter_eq_self.2 fun t ht => ?_
                  have := List.filter_eq_nil_iff.1 hg0 t ht
                  simpa using this
                rw [hft, hb]
          have hset := row_same h.rise (fun a ha => (accs_mem h.accs a ha).2.1) s
          simp only [decide_eq_false hch, Bool.false_eq_true, if_false]
          rw [hsame.1, hsame.2]
          simp [hset, zTx]
      · simp only [hz, if_false]
        simp [sDo, hpl, sAdvP, hsr, hz, wrong, zTx]
    · have hpl : sPlan c l 2 s n (L data) = wrong 1 := by
        have e : s < 0 ∨ 255 < s := by omega
        simp [sPlan, sWhose, sLook, sAdvP, e]
      simp [hr, sDo, hpl, wrong, zTx]
  · -- Get
    rw [w_pool_Do_k3.2 c l _ hP rfl]
    simp only [w_pool_Do_k3, h.get hw 0, Option.bind_some, p_queue_Find _ _ (hShort s)]
    by_cases hr : 0 ≤ s ∧ s ≤ 255
    · have hpl : sPlan c l 3 s n (L data) = sGet (sGetA l s) n := by
        simp [sPlan, sWhose, sLook, show ¬ s < 0 by omega, show ¬ 255 < s by omega]
      cases hb : (sFind (sGetA l s).txs n).2 <;> simp [sDo, hpl, sGet, hb, wrong, zTx]
    · have hpl : sPlan c l 3 s n (L data) = wrong 7 := by
        have e : s < 0 ∨ 255 < s := by omega
        simp [sPlan, sWhose, sLook, sGet, e, sFind]
      rw [h.out (by omega)]
      simp [sFind, sDo, hpl, wrong, zTx]

theorem whose_no {c : Config} {k s n : Int} {d : List UInt8} (hk0 : 0 ≤ k) (hk3 : k ≤ 3) (h : (sWhose k s d).2 = false) : ∃ e, ¬ e = 0 ∧ sLook c ⟨-1, 0, []⟩ k n d = wrong e := by
  have hcase : k = 0 ∨ k = 1 ∨ k = 2 ∨ k = 3 := by omega
  rcases hcase with rfl | rfl | rfl | rfl
  · refine ⟨2, by decide, ?_⟩
    cases hd : sDec d with
    | none => simp [sLook, sAdd, hd]
    | some t => simp [sWhose, hd, decR] at h
  · exact ⟨7, by decide, by simp [sLook, sDropP, sFind]⟩
  · exact ⟨1, by decide, by simp [sLook, sAdvP]⟩
  · exact ⟨7, by decide, by simp [sLook, sGet, sFind]⟩

end Go.Vm

/- What the example of layer 16 comes to, step by step. -/
set_option linter.unusedVariables false
set_option linter.unusedSimpArgs false
namespace Go.Vm
open Go Go.RowKit

theorem nb_small {n : Nat} (h : n < 256) : nb n = [UInt8.ofNat n] := by unfold nb; rw [dif_pos h]
theorem L_empty : L ByteArray.empty = [] := rfl

def vC : Config := ⟨1, 0, 1, 2, 0, 1, 1, 1⟩
def vT : Tx := ⟨1, 0, 5, 9, 10, ByteArray.empty⟩
def vL : List UInt8 := [1, 1, 1, 1, 0, 1, 5, 1, 9, 1, 10, 0, 0]
def vS : ByteArray := mk vL
def vO : Op := ⟨0, 0, 0, 0, vS⟩
def zPlan : Plan := ⟨false, 0, zAcc, [], zRes⟩
def vNew (o : Op) : Task := ⟨o, 0, 0, zPlan, zRes, false⟩
def vA : Acc := ⟨1, 0, [vT]⟩
def vE : Event := ⟨1, vT, 0⟩
def vP : Plan := ⟨true, 1, vA, [vE], zRes⟩
def vX (l k : Int) (s : List Shard) : Sight := ⟨vC, [l], ⟨k, 1⟩, s⟩
def v0 : List Shard := [⟨[], 0⟩]
def v1 : List Shard := [⟨[vA], 1⟩]

theorem v_enc : encL vT = vL := by
  simp [encL, vT, numL, textL, L_empty, nb_small, vL]
theorem v_ok : sTx vT = true := by decide
theorem v_dec : sDec vL = some vT := by rw [← v_enc]; exact sDec_enc _ v_ok
theorem v_ts : sTs vT = 1 := by
  unfold sTs
  rw [if_pos v_ok, v_enc]
  rfl
theorem v_q1 : sQ [vT] = 1 := by simp [sQ, v_ts]
theorem v_q0 : sQ [] = 0 := rfl
theorem v_hL : L vO.data = vL := by simp [vO, vS]
theorem v_whose : sWhose vO.kind vO.sender (L vO.data) = (1, true) := by
  rw [v_hL]
  simp only [sWhose, vO, if_true, v_dec]
  rfl
theorem v_look : sLook vC ⟨1, 0, []⟩ vO.kind vO.nonce (L vO.data) = vP := by
  rw [v_hL]
  have hp : sPlace ⟨1, 0, []⟩ vT vC.per vC.bump = (1, 0) := by
    have ha : sAcc ⟨1, 0, []⟩ vC.per = true := by decide
    simp only [sPlace, ha, v_ok, v_ts]
    rfl
  simp only [sLook, vO, if_true, sAdd, v_dec, hp]
  simp only [sTo, sPut, sPutL, vP]
  rw [show sFind ([] : List Tx) vT.nonce = (zTx, false) from rfl]
  simp only [Bool.false_eq_true, if_false, sIns]
  rw [v_q1, v_q0]
  rfl
theorem v_shd : sShd 1 1 = 0 := by
  unfold sShd
  rw [if_pos (by decide), Int.emod_one]
theorem v_k (t : Task) (x : Sight) (h1 : t.sender = 1) (h2 : x.config = vC) : sK t x = 0 := by
  unfold sK; rw [h1, h2]; exact v_shd
theorem v_may0 (l k : Int) (hl : 0 ≤ l) (hk : 0 ≤ k ∧ k ≤ 1) : sMay (vX l k v0) = true := by
  refine may_spec.2 ⟨(by decide : sCfg vC = true), rfl, rfl, rfl, hk.1, hk.2, fun i v hv => ?_, fun i s hs => ?_⟩
  · cases i with
    | zero => simp [vX] at hv; omega
    | succ i => simp [vX] at hv
  · cases i with
    | zero => simp [vX, v0] at hs; subst hs; rfl
    | succ i => simp [vX, v0] at hs
theorem v_acc : sAcc vA 2 = true := by decide
theorem v_may1 (l k : Int) (hl : 0 ≤ l) (hk : 0 ≤ k ∧ k ≤ 1) : sMay (vX l k v1) = true := by
  refine may_spec.2 ⟨(by decide : sCfg vC = true), rfl, rfl, rfl, hk.1, hk.2, fun i v hv => ?_, fun i s hs => ?_⟩
  · cases i with
    | zero => simp [vX] at hv; omega
    | succ i => simp [vX] at hv
  · cases i with
    | zero =>
      simp [vX, v1] at hs; subst hs
      unfold sChkS
      rw [Bool.and_eq_true]
      refine ⟨by decide, accs_cons.2 ⟨⟨v_acc, by decide, by decide, ?_⟩, rfl⟩⟩
      exact v_shd
    | succ i => simp [vX, v1] at hs

def vt1 : Task := ⟨vO, 1, 1, zPlan, zRes, false⟩
def vt2 : Task := ⟨vO, 2, 1, zPlan, zRes, false⟩
def vt3 : Task := ⟨vO, 3, 1, vP, zRes, false⟩
def vt4 : Task := ⟨vO, 4, 1, vP, zRes, true⟩
def vt5 : Task := ⟨vO, 5, 1, vP, zRes, true⟩
def vt6 : Task := ⟨vO, 6, 1, vP, zRes, true⟩

theorem v_able0 (o : Op) (x : Sight) (h : sMay x = true) : sAble (vNew o) 7 x = true := by
  unfold sAble
  rw [h]
  rfl
theorem v_able1 : sAble vt1 7 (vX 0 0 v0) = true := by
  unfold sAble
  rw [v_may0 0 0 (by decide) (by decide), v_k _ _ rfl rfl]
  rfl
theorem v_ableN (t : Task) (k : Int) (s : List Shard) (h : sMay (vX 7 k s) = true) (h1 : t.sender = 1) (h2 : 2 ≤ t.phase) (h3 : t.phase ≤ 5) : sAble t 7 (vX 7 k s) = true := by
  unfold sAble
  rw [h, v_k _ _ h1 rfl]
  have e : ¬ ((7 : Int) < 1 ∨ t.phase < 0 ∨ 5 < t.phase ∨ true = false) := by simp; omega
  rw [if_neg e, if_neg (by omega), if_neg (by omega)]
  rfl

theorem v_s0 : sStep (vNew vO) 7 (vX 0 0 v0) = (vt1, vX 0 0 v0, [], false) := by
  unfold sStep
  rw [v_able0 _ _ (v_may0 0 0 (by decide) (by decide)), if_neg (by decide), if_pos (show (vNew vO).phase = 0 from rfl)]
  rw [show sWhose (vNew vO).op.kind (vNew vO).op.sender (L (vNew vO).op.data) = (1, true) from v_whose]
  rfl
theorem v_s1 : sStep vt1 7 (vX 0 0 v0) = (vt2, vX 7 0 v0, [], false) := by
  unfold sStep
  rw [v_able1, v_k _ _ rfl rfl]
  rfl
theorem v_see : sSee vt2 (vX 7 0 v0) = vP := by
  unfold sSee sShard
  rw [v_k _ _ rfl rfl]
  exact v_look
theorem v_s2 : sStep vt2 7 (vX 7 0 v0) = (vt3, vX 7 0 v0, [], false) := by
  unfold sStep
  rw [v_ableN _ _ _ (v_may0 7 0 (by decide) (by decide)) rfl (by decide) (by decide), v_see]
  rfl
theorem v_s3 : sStep vt3 7 (vX 7 0 v0) = (vt4, vX 7 1 v0, [vE], true) := by
  unfold sStep
  rw [v_ableN _ _ _ (v_may0 7 0 (by decide) (by decide)) rfl (by decide) (by decide)]
  rfl
theorem v_s4 : sStep vt4 7 (vX 7 1 v0) = (vt5, vX 7 1 v1, [], false) := by
  unfold sStep sShard
  rw [v_ableN _ _ _ (v_may0 7 1 (by decide) (by decide)) rfl (by decide) (by decide), v_k _ _ rfl rfl]
  rfl
theorem v_s5 : sStep vt5 7 (vX 7 1 v1) = (vt6, vX 0 1 v1, [], false) := by
  unfold sStep
  rw [v_ableN _ _ _ (v_may1 7 1 (by decide) (by decide)) rfl (by decide) (by decide), v_k _ _ rfl rfl]
  rfl
def vQ : Op := ⟨0, 0, 0, 0, ⟨#[120]⟩⟩
theorem v_b : sStep (vNew vQ) 7 (vX 0 1 v1) = (sEnd (vNew vQ) (wrong 2).result 6, vX 0 1 v1, [], true) := by
  unfold sStep
  rw [v_able0 _ _ (v_may1 0 1 (by decide) (by decide)), if_neg (by decide), if_pos (show (vNew vQ).phase = 0 from rfl)]
  rw [show sWhose (vNew vQ).op.kind (vNew vQ).op.sender (L (vNew vQ).op.data) = (0, false) from rfl]
  rw [if_neg (by decide)]
  rfl
theorem v_done : sAble vt6 7 (vX 0 1 v1) = false := by
  unfold sAble
  rw [if_pos (.inr (.inr (.inl (by decide))))]

theorem tinv_new (o : Op) {x : Sight} (h : MayS x) : TInv o (vNew o) x :=
  ⟨rfl, h, (by decide : (0 : Int) ≤ 0), (by decide : (0 : Int) ≤ 6), rfl, fun h => absurd h (show ¬ 1 ≤ (0 : Int) by decide), fun h => by
    rcases h with h | h
    · exact absurd h (show ¬ (0 : Int) = 3 by decide)
    · exact absurd h (show ¬ (0 : Int) = 4 by decide), Nat.zero_le _, Nat.zero_le _, Nat.zero_le _, Nat.zero_le _⟩

theorem v_i0 : TInv vO (vNew vO) (vX 0 0 v0) := tinv_new vO (may_spec.1 (v_may0 0 0 (by decide) (by decide)))
theorem v_nx {o : Op} {t u : Task} {x y : Sight} {e : List Event} {b : Bool} (h : TInv o t x) (hs : sStep t 7 x = (u, y, e, b)) : TInv o u y := by
  have := (step_all h (show (1 : Int) ≤ 7 by decide)).1
  rw [hs] at this
  exact this
theorem v_i1 : TInv vO vt1 (vX 0 0 v0) := v_nx v_i0 v_s0
theorem v_i2 : TInv vO vt2 (vX 7 0 v0) := v_nx v_i1 v_s1
theorem v_i3 : TInv vO vt3 (vX 7 0 v0) := v_nx v_i2 v_s2
theorem v_i4 : TInv vO vt4 (vX 7 1 v0) := v_nx v_i3 v_s3
theorem v_i5 : TInv vO vt5 (vX 7 1 v1) := v_nx v_i4 v_s4
theorem v_i6 : TInv vO vt6 (vX 0 1 v1) := v_nx v_i5 v_s5

theorem v_step {o : Op} {t u : Task} {x y : Sight} {e : List Event} {b : Bool} (h : TInv o t x) (hd : o.data.size ≤ 1048576) (hs : sStep t 7 x = (u, y, e, b)) : F_kc3 t 7 x = some (u, y, e, b) := by
  rw [p_task_Step h hd, hs]
theorem v_dO : vO.data.size ≤ 1048576 := by decide
theorem v_f0 : F_kc3 (vNew vO) 7 (vX 0 0 v0) = some (vt1, vX 0 0 v0, [], false) := v_step v_i0 v_dO v_s0
theorem v_f1 : F_kc3 vt1 7 (vX 0 0 v0) = some (vt2, vX 7 0 v0, [], false) := v_step v_i1 v_dO v_s1
theorem v_f2 : F_kc3 vt2 7 (vX 7 0 v0) = some (vt3, vX 7 0 v0, [], false) := v_step v_i2 v_dO v_s2
theorem v_f3 : F_kc3 vt3 7 (vX 7 0 v0) = some (vt4, vX 7 1 v0, [vE], true) := v_step v_i3 v_dO v_s3
theorem v_f4 : F_kc3 vt4 7 (vX 7 1 v0) = some (vt5, vX 7 1 v1, [], false) := v_step v_i4 v_dO v_s4
theorem v_f5 : F_kc3 vt5 7 (vX 7 1 v1) = some (vt6, vX 0 1 v1, [], false) := v_step v_i5 v_dO v_s5
theorem v_fb : F_kc3 (vNew vQ) 7 (vX 0 1 v1) = some (sEnd (vNew vQ) (wrong 2).result 6, vX 0 1 v1, [], true) :=
  v_step (tinv_new vQ (may_spec.1 (v_may1 0 1 (by decide) (by decide)))) (by decide) v_b

theorem v_ab (t : Task) {x : Sight} (h : sMay x = true) (b : Bool) (hb : sAble t 7 x = b) : F_kbf t 7 x = some b := by
  rw [p_task_Able t 7 x (may_sh (may_spec.1 h)), hb]
theorem v_a0 : F_kbf (vNew vO) 7 (vX 0 0 v0) = some true := v_ab _ (v_may0 0 0 (by decide) (by decide)) _ (v_able0 _ _ (v_may0 0 0 (by decide) (by decide)))
theorem v_a1 : F_kbf vt1 7 (vX 0 0 v0) = some true := v_ab _ (v_may0 0 0 (by decide) (by decide)) _ v_able1
theorem v_a2 : F_kbf vt2 7 (vX 7 0 v0) = some true := v_ab _ (v_may0 7 0 (by decide) (by decide)) _ (v_ableN _ _ _ (v_may0 7 0 (by decide) (by decide)) rfl (by decide) (by decide))
theorem v_a3 : F_kbf vt3 7 (vX 7 0 v0) = some true := v_ab _ (v_may0 7 0 (by decide) (by decide)) _ (v_ableN _ _ _ (v_may0 7 0 (by decide) (by decide)) rfl (by decide) (by decide))
theorem v_a4 : F_kbf vt4 7 (vX 7 1 v0) = some true := v_ab _ (v_may0 7 1 (by decide) (by decide)) _ (v_ableN _ _ _ (v_may0 7 1 (by decide) (by decide)) rfl (by decide) (by decide))
theorem v_a5 : F_kbf vt5 7 (vX 7 1 v1) = some true := v_ab _ (v_may1 7 1 (by decide) (by decide)) _ (v_ableN _ _ _ (v_may1 7 1 (by decide) (by decide)) rfl (by decide) (by decide))
theorem v_a6 : F_kbf vt6 7 (vX 0 1 v1) = some false := v_ab _ (v_may1 0 1 (by decide) (by decide)) _ v_done
theorem v_may : F_kc0 (vX 0 1 v1) = some true := by rw [p_task_May _ (may_sh (may_spec.1 (v_may1 0 1 (by decide) (by decide)))), v_may1 0 1 (by decide) (by decide)]
theorem v_encode : F_k68 { sender := 1, nonce := 0, tip := 5, cap := 9, gas := 10, data := ByteArray.empty } = some (vS, true) := by
  have := p_r04_Encode vT
  rw [if_pos v_ok, v_enc] at this
  exact this
theorem v_new (o : Op) : F_kc1 o = some (vNew o) := rfl

end Go.Vm

/- Layer 16, plain: what a task that is alone comes to. -/
set_option linter.unusedVariables false
set_option linter.unusedSimpArgs false
namespace Go.Vm
open Go Go.RowKit

structure ASt where
  t : Task
  x : Sight
  ev : List Event
  n : Nat

def aStep (who : Int) (a : ASt) : ASt := ⟨(sStep a.t who a.x).1, (sStep a.t who a.x).2.1, a.ev ++ (sStep a.t who a.x).2.2.1, if (sStep a.t who a.x).2.2.2 = true then a.n + 1 else a.n⟩

structure ALive (o : Op) (who : Int) (a : ASt) : Prop where
  inv : TInv o a.t a.x
  able : sAble a.t who a.x = true
  ph : ¬ a.t.phase = 6
  few : a.ev.length ≤ 1000000
  nn : a.n ≤ 6

inductive Way (o : Op) (who : Int) : Nat → ASt → ASt → Prop
  | done (a : ASt) : Way o who 0 a a
  | go {m : Nat} {a b c : ASt} (h : ALive o who a) (e : aStep who a = b) (r : Way o who m b c) : Way o who (m + 1) a c

theorem next_inv {o : Op} {who : Int} {a b : ASt} (h : TInv o a.t a.x) (hw : 1 ≤ who) (e : aStep who a = b) : TInv o b.t b.x := by
  subst e
  exact (step_all h hw).1

theorem step_few {o : Op} {t : Task} {who : Int} {x : Sight} (h : TInv o t x) : (sStep t who x).2.2.1.length ≤ 1000 := by
  have := h.fewE
  unfold sStep
  repeat' split
  all_goals first
    | exact Nat.zero_le _
    | exact this

structure AFin (o : Op) (s : Sight) (b : ASt) : Prop where
  ph : b.t.phase = 6
  n : b.n = 1
  inv : TInv o b.t b.x
  res : b.t.result = (sDo s.config (sJoin s.shards) o.kind o.sender o.nonce (L o.data)).2.1
  ev : b.ev = (sDo s.config (sJoin s.shards) o.kind o.sender o.nonce (L o.data)).2.2
  pot : b.x.pot.taken = sSlots (sJoin b.x.shards)
  locks : b.x.locks = s.locks
  acc : sJoin b.x.shards = (sDo s.config (sJoin s.shards) o.kind o.sender o.nonce (L o.data)).1

theorem able0 {o : Op} {t : Task} {who : Int} {x : Sight} (h : TInv o t x) (hw : 1 ≤ who) (hp : t.phase = 0) : sAble t who x = true := by
  unfold sAble
  rw [if_neg (by simp [may_spec.2 h.may]; omega), if_pos hp]
theorem able1 {o : Op} {t : Task} {who : Int} {x : Sight} (h : TInv o t x) (hw : 1 ≤ who) (hp : t.phase = 1) (hf : sFree x.locks (sK t x) = true) : sAble t who x = true := by
  unfold sAble
  rw [if_neg (by simp [may_spec.2 h.may]; omega), if_neg (by omega), if_pos hp]; exact hf
theorem ableN {o : Op} {t : Task} {who : Int} {x : Sight} (h : TInv o t x) (hw : 1 ≤ who) (hp : 2 ≤ t.phase) (hp5 : t.phase ≤ 5) {k : Nat} (hk : sK t x = k) (hl : x.locks[k]? = some who) : sAble t who x = true := by
  unfold sAble
  rw [if_neg (by simp [may_spec.2 h.may]; omega), if_neg (by omega), if_neg (by omega), hk]
  simp [hl]

theorem get_slots {l : List Acc} (h : Rise l) (s : Int) : sQ (sGetA l s).txs ≤ sSlots l := by
  have h1 := slots_del h s
  have h2 := slots_range (l := sDelA l s)
  omega

theorem shd_nat {a n : Int} (h0 : 0 ≤ a) (h1 : a ≤ 255) (hn : 1 ≤ n) (hn8 : n ≤ 8) : ∃ k : Nat, sShd a n = k ∧ (k : Int) < n := by
  have h2 : 0 ≤ sShd a n := by
    unfold sShd
    rw [if_pos (by omega)]
    exact Int.emod_nonneg _ (by omega)
  have h3 := (shd_range a n).2 hn
  exact ⟨(sShd a n).toNat, by omega, by omega⟩

theorem set_back {l : List Int} {k : Nat} {v w : Int} (h : l[k]? = some w) : (l.set k v).set k w = l := by
  apply List.ext_getElem?
  intro i
  simp only [List.getElem?_set, List.length_set]
  by_cases e : k = i
  · subst e
    have := (List.getElem?_eq_some_iff.1 h).1
    rw [if_pos rfl, if_pos this]
    exact h.symm
  · simp [e]

section
variable {t : Task} {who : Int} {x : Sight}
theorem st0n (ha : sAble t who x = true) (hp : t.phase = 0) (hw : (sWhose t.op.kind t.op.sender (L t.op.data)).2 = false) : sStep t who x = (sEnd t (sLook x.config ⟨-1, 0, []⟩ t.op.kind t.op.nonce (L t.op.data)).result 6, x, [], true) := by
  unfold sStep; rw [if_neg (by rw [ha]; decide), if_pos hp, if_neg (by rw [hw]; decide)]
theorem st0y (ha : sAble t who x = true) (hp : t.phase = 0) (hw : (sWhose t.op.kind t.op.sender (L t.op.data)).2 = true) : sStep t who x = ({ t with sender := (sWhose t.op.kind t.op.sender (L t.op.data)).1, phase := 1 }, x, [], false) := by
  unfold sStep; rw [if_neg (by rw [ha]; decide), if_pos hp, if_pos hw]
theorem st1 (ha : sAble t who x = true) (hp : t.phase = 1) : sStep t who x = ({ t with phase := 2 }, { x with locks := x.locks.set (sK t x).toNat who }, [], false) := by
  unfold sStep; rw [if_neg (by rw [ha]; decide), if_neg (by omega), if_pos hp]
theorem st2y (ha : sAble t who x = true) (hp : t.phase = 2) (hc : (sSee t x).changes = true) : sStep t who x = ({ t with plan := sSee t x, phase := 3 }, x, [], false) := by
  unfold sStep; rw [if_neg (by rw [ha]; decide), if_neg (by omega), if_neg (by omega), if_pos hp, if_pos hc]
theorem st2n (ha : sAble t who x = true) (hp : t.phase = 2) (hc : (sSee t x).changes = false) : sStep t who x = (sEnd { t with plan := sSee t x } (sSee t x).result 5, x, [], true) := by
  unfold sStep; rw [if_neg (by rw [ha]; decide), if_neg (by omega), if_neg (by omega), if_pos hp, if_neg (by rw [hc]; decide)]
theorem st3y (ha : sAble t who x = true) (hp : t.phase = 3) (hz : (sAdj x.pot t.plan.delta).2 = 0) : sStep t who x = (sEnd t t.plan.result 4, { x with pot := (sAdj x.pot t.plan.delta).1 }, t.plan.events, true) := by
  unfold sStep; rw [if_neg (by rw [ha]; decide), if_neg (by omega), if_neg (by omega), if_neg (by omega), if_pos hp, if_pos hz]
theorem st3n (ha : sAble t who x = true) (hp : t.phase = 3) (hz : ¬ (sAdj x.pot t.plan.delta).2 = 0) : sStep t who x = (sEnd t (sFull t.plan) 5, x, [], true) := by
  unfold sStep; rw [if_neg (by rw [ha]; decide), if_neg (by omega), if_neg (by omega), if_neg (by omega), if_pos hp, if_neg hz]
theorem st4 (ha : sAble t who x = true) (hp : t.phase = 4) : sStep t who x = ({ t with phase := 5 }, { x with shards := x.shards.set (sK t x).toNat (sSet (sShard t x) t.plan.after) }, [], false) := by
  unfold sStep; rw [if_neg (by rw [ha]; decide), if_neg (by omega), if_neg (by omega), if_neg (by omega), if_neg (by omega), if_pos hp]
theorem st5 (ha : sAble t who x = true) (hp : t.phase = 5) : sStep t who x = ({ t with phase := 6 }, { x with locks := x.locks.set (sK t x).toNat 0 }, [], false) := by
  unfold sStep; rw [if_neg (by rw [ha]; decide), if_neg (by omega), if_neg (by omega), if_neg (by omega), if_neg (by omega), if_neg (by omega)]
end

theorem pool_of {s : Sight} (hm : MayS s) (ht : s.pot.taken = sSlots (sJoin s.shards)) : PoolS s.config (sJoin s.shards) :=
  ⟨hm.cfg, by have := hm.tk1; omega, join_accs (may_shs hm)⟩

theorem a_step {who : Int} {t u : Task} {x y : Sight} {e ev : List Event} {p : Bool} {n : Nat} (h : sStep t who x = (u, y, e, p)) : aStep who ⟨t, x, ev, n⟩ = ⟨u, y, ev ++ e, if p = true then n + 1 else n⟩ := by
  simp [aStep, h]

theorem alone (o : Op) (who : Int) (s : Sight) (hm : MayS s) (hw : 1 ≤ who) (hk0 : 0 ≤ o.kind) (hk3 : o.kind ≤ 3) (hz : ∀ (i : Nat) v, s.locks[i]? = some v → v = 0) (ht : s.pot.taken = sSlots (sJoin s.shards)) :
    ∃ m b, m ≤ 6 ∧ Way o who m ⟨vNew o, s, [], 0⟩ b ∧ AFin o s b := by
  have hc := sCfg_spec.1 hm.cfg
  have hP := pool_of hm ht
  have i0 : TInv o (vNew o) s := tinv_new o hm
  have v0 : ALive o who ⟨vNew o, s, [], 0⟩ := ⟨i0, able0 i0 hw rfl, by show ¬ (0 : Int) = 6; decide, by simp, by simp⟩
  obtain ⟨d, hd⟩ : ∃ d, d = L o.data := ⟨_, rfl⟩
  cases hwh : (sWhose o.kind o.sender (L o.data)).2 with
  | false =>
    have e1 := a_step (ev := []) (n := 0) (st0n v0.able rfl hwh)
    have hpl : sPlan s.config (sJoin s.shards) o.kind o.sender o.nonce (L o.data) = sLook s.config ⟨-1, 0, []⟩ o.kind o.nonce (L o.data) := by simp [sPlan, hwh]
    have hch : (sLook s.config ⟨-1, 0, []⟩ o.kind o.nonce (L o.data)).changes = false := by
      obtain ⟨e, _, hl⟩ := whose_no (c := s.config) (n := o.nonce) hk0 hk3 hwh
      rw [hl]; rfl
    refine ⟨1, _, by omega, .go v0 e1 (.done _), ?_⟩
    refine ⟨rfl, rfl, next_inv i0 hw e1, ?_, ?_, ht, rfl, ?_⟩
    · simp only [sDo, hpl, hch, Bool.false_eq_true, if_false]; rfl
    · simp only [sDo, hpl, hch, Bool.false_eq_true, if_false]; rfl
    · simp only [sDo, hpl, hch, Bool.false_eq_true, if_false]
  | true =>
    -- the lock
    have e1 := a_step (ev := []) (n := 0) (st0y v0.able rfl hwh)
    have i1 := next_inv i0 hw e1
    have hr := whose_range hwh
    obtain ⟨w, hwe⟩ : ∃ w, w = (sWhose o.kind o.sender (L o.data)).1 := ⟨_, rfl⟩
    obtain ⟨t1, ht1⟩ : ∃ t1 : Task, t1 = { vNew o with sender := w, phase := 1 } := ⟨_, rfl⟩
    have e1' : aStep who ⟨vNew o, s, [], 0⟩ = ⟨t1, s, [], 0⟩ := by rw [e1, ht1, hwe]; rfl
    rw [show (⟨_, s, [] ++ [], if false = true then 0 + 1 else 0⟩ : ASt) = ⟨t1, s, [], 0⟩ from by rw [ht1, hwe]; rfl] at i1
    simp only at i1
    rw [← hwe] at hr
    obtain ⟨k, hk, hkn⟩ := shd_nat hr.1 hr.2 (n := s.config.shards) (by omega) (by omega)
    have hll := hm.llen; have hsl := hm.slen
    have hkl : k < s.locks.length := by omega
    have hks : k < s.shards.length := by omega
    have hlk : s.locks[k]? = some 0 := by rw [List.getElem?_eq_getElem hkl, hz k _ (List.getElem?_eq_getElem hkl)]
    obtain ⟨sh, hsh⟩ : ∃ sh, s.shards[k]? = some sh := ⟨_, List.getElem?_eq_getElem hks⟩
    have hsh0 := may_shs hm
    have hgj := join_get hsh0 hk hsh
    have hacc := hP.acc hr.1 hr.2
    have sk1 : sK t1 s = k := by rw [ht1]; exact hk
    have v1 : ALive o who ⟨t1, s, [], 0⟩ := ⟨i1, able1 i1 hw (by rw [ht1]) (by rw [sk1]; simp [sFree, hlk]), by rw [ht1]; show ¬ (1 : Int) = 6; decide, by simp, by simp⟩
    have e2 := a_step (ev := []) (n := 0) (st1 v1.able (by rw [ht1]))
    obtain ⟨t2, ht2⟩ : ∃ t2 : Task, t2 = { t1 with phase := 2 } := ⟨_, rfl⟩
    obtain ⟨x2, hx2⟩ : ∃ x2 : Sight, x2 = { s with locks := s.locks.set k who } := ⟨_, rfl⟩
    have e2' : aStep who ⟨t1, s, [], 0⟩ = ⟨t2, x2, [], 0⟩ := by rw [e2, ht2, hx2, sk1]; rfl
    have i2 := next_inv i1 hw e2'
    simp only at i2
    have hl2 : x2.locks[k]? = some who := by rw [hx2]; simp [hkl]
    have c2 : x2.config = s.config := by rw [hx2]
    have p2 : x2.pot = s.pot := by rw [hx2]
    have s2 : x2.shards = s.shards := by rw [hx2]
    have sk2 : sK t2 x2 = k := by unfold sK; rw [c2, ht2, ht1]; exact hk
    have v2 : ALive o who ⟨t2, x2, [], 0⟩ := ⟨i2, ableN i2 hw (by rw [ht2]; show (2 : Int) ≤ 2; decide) (by rw [ht2]; show (2 : Int) ≤ 5; decide) sk2 hl2, by rw [ht2]; show ¬ (2 : Int) = 6; decide, by simp, by simp⟩
    have hsd2 : sShard t2 x2 = sh := by unfold sShard; rw [sk2, s2]; simp [hsh]
    obtain ⟨p, hp⟩ : ∃ p, p = sPlan s.config (sJoin s.shards) o.kind o.sender o.nonce (L o.data) := ⟨_, rfl⟩
    have hpl : p = sLook s.config (sGetA (sJoin s.shards) w) o.kind o.nonce (L o.data) := by rw [hp, hwe]; simp [sPlan, hwh]
    have hsee : sSee t2 x2 = p := by
      have h1 : t2.op = o := i2.op
      have h2 : t2.sender = w := by rw [ht2, ht1]
      unfold sSee
      rw [hsd2, c2, h1, h2, hpl, hgj]
    have back : ∀ t : Task, ∀ y : Sight, y.config = s.config → t.sender = w → sK t y = k := fun t y h1 h2 => by unfold sK; rw [h1, h2]; exact hk
    have hset : x2.locks.set k 0 = s.locks := by rw [hx2]; exact set_back hlk
    cases hch : p.changes with
    | false =>
      have e3 := a_step (ev := []) (n := 0) (st2n v2.able (by rw [ht2]) (by rw [hsee]; exact hch))
      rw [hsee] at e3
      obtain ⟨t3, ht3⟩ : ∃ t3 : Task, t3 = sEnd { t2 with plan := p } p.result 5 := ⟨_, rfl⟩
      have e3' : aStep who ⟨t2, x2, [], 0⟩ = ⟨t3, x2, [], 1⟩ := by rw [e3, ht3]; rfl
      have i3 := next_inv i2 hw e3'
      simp only at i3
      have sk3 : sK t3 x2 = k := back t3 x2 c2 (by rw [ht3, ht2, ht1]; rfl)
      have v3 : ALive o who ⟨t3, x2, [], 1⟩ := ⟨i3, ableN i3 hw (by rw [ht3]; show (2 : Int) ≤ 5; decide) (by rw [ht3]; show (5 : Int) ≤ 5; decide) sk3 hl2, by rw [ht3]; show ¬ (5 : Int) = 6; decide, by simp, by simp⟩
      have e4 := a_step (ev := []) (n := 1) (st5 v3.able (by rw [ht3]; rfl))
      rw [sk3, show ((k : Nat) : Int).toNat = k from by simp, hset] at e4
      have i4 := next_inv i3 hw e4
      refine ⟨4, _, by omega, .go v0 e1' (.go v1 e2' (.go v2 e3' (.go v3 e4 (.done _)))), ?_⟩
      refine ⟨rfl, rfl, i4, ?_, ?_, ?_, rfl, ?_⟩
      · simp only [sDo, ← hp, hch, Bool.false_eq_true, if_false, ht3]; rfl
      · simp only [sDo, ← hp, hch, Bool.false_eq_true, if_false]; rfl
      · simp only [p2, s2]; exact ht
      · simp only [sDo, ← hp, hch, Bool.false_eq_true, if_false, s2]
    | true =>
      have herr : p.result.err = 0 := by
        rw [hpl] at hch ⊢
        exact err_of_changes hch
      have hmay := plan_may hacc.1 (by rw [← hpl]; exact herr) (by rw [← hpl]; exact hch)
      rw [← hpl] at hmay
      obtain ⟨g1, g2, g3, g4⟩ := hmay
      have hgs := get_slots hP.rise w
      have hq0 := (sQ_range p.after.txs).1
      have e3 := a_step (ev := []) (n := 0) (st2y v2.able (by rw [ht2]) (by rw [hsee]; exact hch))
      rw [hsee] at e3
      obtain ⟨t3, ht3⟩ : ∃ t3 : Task, t3 = { t2 with plan := p, phase := 3 } := ⟨_, rfl⟩
      have e3' : aStep who ⟨t2, x2, [], 0⟩ = ⟨t3, x2, [], 0⟩ := by rw [e3, ht3]; rfl
      have i3 := next_inv i2 hw e3'
      simp only at i3
      have sk3 : sK t3 x2 = k := back t3 x2 c2 (by rw [ht3, ht2, ht1])
      have v3 : ALive o who ⟨t3, x2, [], 0⟩ := ⟨i3, ableN i3 hw (by rw [ht3]; show (2 : Int) ≤ 3; decide) (by rw [ht3]; show (3 : Int) ≤ 5; decide) sk3 hl2, by rw [ht3]; show ¬ (3 : Int) = 6; decide, by simp, by simp⟩
      have hmo := hm.most; have ht0 := hm.tk0; have ht1' := hm.tk1
      have hpt3 : t3.plan = p := by rw [ht3]
      have hadj : sAdj x2.pot t3.plan.delta = if s.config.hard - sSlots (sJoin s.shards) < p.delta then (s.pot, 6) else (⟨s.pot.taken + p.delta, s.pot.most⟩, 0) := by
        unfold sAdj
        rw [p2, hpt3, if_neg (by omega), hmo, ht]
      by_cases hf : s.config.hard - sSlots (sJoin s.shards) < p.delta
      · rw [if_pos hf] at hadj
        have e4 := a_step (ev := []) (n := 0) (st3n v3.able (by rw [ht3]) (by rw [hadj]; show ¬ (6 : Int) = 0; decide))
        rw [hpt3] at e4
        obtain ⟨t4, ht4⟩ : ∃ t4 : Task, t4 = sEnd t3 (sFull p) 5 := ⟨_, rfl⟩
        have e4' : aStep who ⟨t3, x2, [], 0⟩ = ⟨t4, x2, [], 1⟩ := by rw [e4, ht4]; rfl
        have i4 := next_inv i3 hw e4'
        simp only at i4
        have sk4 : sK t4 x2 = k := back t4 x2 c2 (by rw [ht4, ht3, ht2, ht1]; rfl)
        have v4 : ALive o who ⟨t4, x2, [], 1⟩ := ⟨i4, ableN i4 hw (by rw [ht4]; show (2 : Int) ≤ 5; decide) (by rw [ht4]; show (5 : Int) ≤ 5; decide) sk4 hl2, by rw [ht4]; show ¬ (5 : Int) = 6; decide, by simp, by simp⟩
        have e5 := a_step (ev := []) (n := 1) (st5 v4.able (by rw [ht4]; rfl))
        rw [sk4, show ((k : Nat) : Int).toNat = k from by simp, hset] at e5
        have i5 := next_inv i4 hw e5
        have hfu : sFull p = ⟨6, zTx, [], 0⟩ := by unfold sFull; rw [if_pos ⟨hch, by omega⟩]
        refine ⟨5, _, by omega, .go v0 e1' (.go v1 e2' (.go v2 e3' (.go v3 e4' (.go v4 e5 (.done _))))), ?_⟩
        refine ⟨rfl, rfl, i5, ?_, ?_, ?_, rfl, ?_⟩
        · simp only [sDo, ← hp, hch, if_true, hf, ht4, hfu]; rfl
        · simp only [sDo, ← hp, hch, if_true, hf]; rfl
        · simp only [p2, s2]; exact ht
        · simp only [sDo, ← hp, hch, if_true, hf, s2]
      · rw [if_neg hf] at hadj
        have e4 := a_step (ev := []) (n := 0) (st3y v3.able (by rw [ht3]) (by rw [hadj]))
        rw [hadj, hpt3] at e4
        obtain ⟨t4, ht4⟩ : ∃ t4 : Task, t4 = sEnd t3 p.result 4 := ⟨_, rfl⟩
        obtain ⟨x4, hx4⟩ : ∃ x4 : Sight, x4 = { x2 with pot := ⟨s.pot.taken + p.delta, s.pot.most⟩ } := ⟨_, rfl⟩
        have e4' : aStep who ⟨t3, x2, [], 0⟩ = ⟨t4, x4, p.events, 1⟩ := by rw [e4, ht4, hx4]; rfl
        have i4 := next_inv i3 hw e4'
        simp only at i4
        have c4 : x4.config = s.config := by rw [hx4]; exact c2
        have l4 : x4.locks = x2.locks := by rw [hx4]
        have s4 : x4.shards = s.shards := by rw [hx4]; exact s2
        have sk4 : sK t4 x4 = k := back t4 x4 c4 (by rw [ht4, ht3, ht2, ht1]; rfl)
        have hfe : p.events.length ≤ 1000 := by have := i3.fewE; rwa [hpt3] at this
        have v4 : ALive o who ⟨t4, x4, p.events, 1⟩ := ⟨i4, ableN i4 hw (by rw [ht4]; show (2 : Int) ≤ 4; decide) (by rw [ht4]; show (4 : Int) ≤ 5; decide) sk4 (by rw [l4]; exact hl2), by rw [ht4]; show ¬ (4 : Int) = 6; decide, by simp; omega, by simp⟩
        have hsd4 : sShard t4 x4 = sh := by unfold sShard; rw [sk4, s4]; simp [hsh]
        have hpt4 : t4.plan = p := by rw [ht4]; exact hpt3
        have e5 := a_step (ev := p.events) (n := 1) (st4 v4.able (by rw [ht4]; rfl))
        rw [hsd4, sk4, hpt4, s4, show ((k : Nat) : Int).toNat = k from by simp] at e5
        obtain ⟨t5, ht5⟩ : ∃ t5 : Task, t5 = { t4 with phase := 5 } := ⟨_, rfl⟩
        obtain ⟨x5, hx5⟩ : ∃ x5 : Sight, x5 = { x4 with shards := s.shards.set k (sSet sh p.after) } := ⟨_, rfl⟩
        have e5' : aStep who ⟨t4, x4, p.events, 1⟩ = ⟨t5, x5, p.events, 1⟩ := by rw [e5, ht5, hx5, List.append_nil, ← hpt4]; rfl
        have i5 := next_inv i4 hw e5'
        simp only at i5
        have c5 : x5.config = s.config := by rw [hx5]; exact c4
        have l5 : x5.locks = x2.locks := by rw [hx5]; exact l4
        have sk5 : sK t5 x5 = k := back t5 x5 c5 (by rw [ht5, ht4, ht3, ht2, ht1]; rfl)
        have v5 : ALive o who ⟨t5, x5, p.events, 1⟩ := ⟨i5, ableN i5 hw (by rw [ht5]; show (2 : Int) ≤ 5; decide) (by rw [ht5]; show (5 : Int) ≤ 5; decide) sk5 (by rw [l5]; exact hl2), by rw [ht5]; show ¬ (5 : Int) = 6; decide, by simp; omega, by simp⟩
        have e6 := a_step (ev := p.events) (n := 1) (st5 v5.able (by rw [ht5]))
        rw [sk5, show ((k : Nat) : Int).toNat = k from by simp, l5, hset, List.append_nil] at e6
        have i6 := next_inv i5 hw e6
        have hjs : sJoin (s.shards.set k (sSet sh p.after)) = sSetL (sJoin s.shards) p.after := join_set hsh0 (by rw [g3, hacc.2]; exact hk) hsh g1
        refine ⟨6, _, by omega, .go v0 e1' (.go v1 e2' (.go v2 e3' (.go v3 e4' (.go v4 e5' (.go v5 e6 (.done _)))))), ?_⟩
        refine ⟨rfl, rfl, i6, ?_, ?_, ?_, rfl, ?_⟩
        · simp only [sDo, ← hp, hch, if_true, hf, if_false, ht5, ht4]; rfl
        · simp only [sDo, ← hp, hch, if_true, hf, if_false]
        · simp only [hx5, hx4]
          rw [hjs, slots_set hP.rise, g3, hacc.2, ht]
          omega
        · simp only [sDo, ← hp, hch, if_true, hf, if_false, hx5]; exact hjs

end Go.Vm

/- Layer 11's reference: a row with one account; all shards in one row. -/
set_option linter.unusedVariables false
set_option linter.unusedSimpArgs false
namespace Go.Vm
open Go Go.RowKit

theorem rset_loop (x : Acc) (G : L_k80_0 ⊕ Shard → Option Shard) (st : Bool → List Acc → L_k80_0) (F : List Acc → Option Shard) (hG0 : ∀ out, out.length ≤ 1099511627780 → G (.inl (st false out)) = F (out ++ [x])) (hG1 : ∀ out, G (.inl (st true out)) = F out) :
    ∀ (k : List Acc) (i : Nat) (laid : Bool) (out : List Acc), out.length ≤ (if laid = true then i + 1 else i) → i + k.length ≤ 1099511627776 →
    (loopL (γ := Bool × List Acc) (β := L_k80_0 ⊕ Shard) (fun _ c (a : Acc) => if a.sender = x.sender then some (.inl c) else if c.1 = false ∧ x.sender < a.sender then (if (c.2.length + 1) * 40 ≤ 140737488355328 ∧ (c.2.length + 1 + 1) * 40 ≤ 140737488355328 then some (.inl (true, c.2 ++ [x, a])) else none) else if (c.2.length + 1) * 40 ≤ 140737488355328 then some (.inl (c.1, c.2 ++ [a])) else none) (fun c => some (.inl (st c.1 c.2))) i (laid, out) k).bind G = F (if laid = true then out ++ sDelA k x.sender else out ++ sInsA x (sDelA k x.sender))
  | [], i, laid, out, h1, h2 => by
    simp only [List.length_nil] at h2
    cases laid with
    | false => simp at h1; simp only [loopL, Option.bind_some, hG0 out (by omega)]; simp [sInsA, sDelA]
    | true => simp only [loopL, Option.bind_some, hG1]; simp [sDelA]
  | a :: k, i, laid, out, h1, h2 => by
    simp only [List.length_cons] at h2
    have h1' : out.length ≤ i + 1 := by split at h1 <;> omega
    have r1 : (out.length + 1) * 40 ≤ 140737488355328 := room40 (by omega)
    have r2 : (out.length + 1 + 1) * 40 ≤ 140737488355328 := room40 (by omega)
    unfold loopL
    by_cases he : a.sender = x.sender
    · have hd : sDelA (a :: k) x.sender = sDelA k x.sender := by simp [sDelA, List.filter_cons, he]
      simp only [he, if_true]
      rw [rset_loop x G st F hG0 hG1 k (i + 1) laid out (by split at h1 <;> (rename_i q; simp [q]; omega)) (by omega), hd]
    have hd : sDelA (a :: k) x.sender = a :: sDelA k x.sender := by simp [sDelA, List.filter_cons, he]
    rw [hd]
    simp only [he, if_false]
    cases laid with
    | true =>
      simp only [Bool.true_eq_false, false_and, if_false, r1, if_true]
      rw [rset_loop x G st F hG0 hG1 k (i + 1) true _ (by simp at h1 ⊢; omega) (by omega)]
      simp
    | false =>
      by_cases hx : x.sender < a.sender
      · simp only [hx, and_self, if_true, r1, r2]
        rw [rset_loop x G st F hG0 hG1 k (i + 1) true _ (by simp at h1 ⊢; omega) (by omega)]
        simp [sInsA, hx]
      · simp only [hx, and_false, if_false, r1, if_true]
        rw [rset_loop x G st F hG0 hG1 k (i + 1) false _ (by simp at h1 ⊢; omega) (by omega)]
        simp [sInsA, hx]

theorem p_r11_Set (l : List Acc) (x : Acc) (h : l.length ≤ 1048576) : F_k80 ⟨l, 0⟩ x = some ⟨sSetL l x, 1⟩ := by
  simp only [F_k80, pk_k80, p_r11_empty, Option.bind_some]
  rw [show decide (x.base = 0 ∧ x.txs = []) = emp x from rfl]
  refine run_bind (γ := Bool × List Acc) l (fun i c => ⟨c.1, i, ⟨l, 0⟩, x, 0, c.2⟩) (fun _ c (a : Acc) => if a.sender = x.sender then some (.inl c) else if c.1 = false ∧ x.sender < a.sender then (if (c.2.length + 1) * 40 ≤ 140737488355328 ∧ (c.2.length + 1 + 1) * 40 ≤ 140737488355328 then some (.inl (true, c.2 ++ [x, a])) else none) else if (c.2.length + 1) * 40 ≤ 140737488355328 then some (.inl (c.1, c.2 ++ [a])) else none) (fun c => some (.inl ⟨c.1, l.length, ⟨l, 0⟩, x, 0, c.2⟩)) (emp x, []) rfl ?_ ?_ ?_
  · intro i c a ha
    obtain ⟨h1, h2, h3, h4⟩ := at_ ha (sh_of h)
    obtain ⟨c1, c2⟩ := c
    simp only [h1, h2, h3, h4, ha, if_true, Option.bind_some]
    by_cases he : a.sender = x.sender
    · simp [he]
    cases c1 with
    | true => simp [he]; split <;> rfl
    | false =>
      by_cases hx : x.sender < a.sender
      · by_cases g1 : (c2.length + 1) * 40 ≤ 140737488355328 <;> by_cases g2 : (c2.length + 1 + 1) * 40 ≤ 140737488355328 <;> simp [he, hx, g1, g2]
      · simp [he, hx]; split <;> rfl
  · intro c; simp
  · refine (rset_loop x _ (fun b o => ⟨b, l.length, ⟨l, 0⟩, x, 0, o⟩) (fun o => some ⟨o, 1⟩) ?_ ?_ l 0 (emp x) [] (by simp) (by omega)).trans ?_
    · intro out ho
      have r1 : (out.length + 1) * 40 ≤ 140737488355328 := room40 (by omega)
      simp [selim, r1]; try rfl
    · intro out; simp [selim]; try rfl
    · unfold sSetL
      cases emp x <;> simp

theorem joinA_len : ∀ (l m : List Acc), (sJoinA m l).length = m.length + l.length
  | [], m => by simp [sJoinA]
  | a :: l, m => by
    have e : sJoinA m (a :: l) = sJoinA (sInsA a m) l := rfl
    have hi : ∀ k : List Acc, (sInsA a k).length = k.length + 1 := by
      intro k
      induction k with
      | nil => rfl
      | cons b k ih => unfold sInsA; split <;> simp [ih]
    rw [e, joinA_len, hi]; simp; omega

noncomputable def loopP : List Acc → List Acc → Option (List Acc)
  | c, [] => some c
  | c, a :: k => (F_k84 c a).bind fun r => loopP r k

theorem loopP_ok : ∀ (k c : List Acc), c.length + k.length ≤ 1048576 → loopP c k = some (sJoinA c k)
  | [], c, _ => rfl
  | a :: k, c, h => by
    simp only [List.length_cons] at h
    have e1 : (sInsA a c).length = c.length + 1 := joinA_len [a] c
    have e : sJoinA c (a :: k) = sJoinA (sInsA a c) k := rfl
    rw [loopP, p_r11_put c a (by omega), Option.bind_some, loopP_ok k (sInsA a c) (by omega), e]

theorem loopP_loop {β : Type} (fin : List Acc → Option β) : ∀ (k : List Acc) (i : Nat) (c : List Acc), loopL (fun _ c a => (F_k84 c a).bind fun r => some (.inl r)) fin i c k = (loopP c k).bind fin
  | [], i, c => rfl
  | a :: k, i, c => by
    unfold loopL loopP
    cases F_k84 c a with
    | none => rfl
    | some r => exact loopP_loop fin k (i + 1) r

theorem joinS_loop {β : Type} (fin : List Acc → Option β) : ∀ (K : List Shard) (i : Nat) (c : List Acc), (∀ s ∈ K, s.accounts.length ≤ 1024) → c.length + 1024 * K.length ≤ 1048576 →
    loopL (fun _ c (s : Shard) => (loopP c s.accounts).bind fun r => some (.inl r)) fin i c K = fin (K.foldl (fun acc s => sJoinA acc s.accounts) c)
  | [], i, c, _, _ => rfl
  | s :: K, i, c, hs, h => by
    simp only [List.length_cons] at h
    have h1 := hs s List.mem_cons_self
    have hl := joinA_len s.accounts c
    unfold loopL
    rw [loopP_ok s.accounts c (by omega)]
    exact joinS_loop fin K (i + 1) _ (fun x hx => hs x (List.mem_cons_of_mem _ hx)) (by omega)

theorem p_r11_Join (L : List Shard) (h : L.length ≤ 1024) (hs : ∀ s ∈ L, s.accounts.length ≤ 1024) : F_k7d L = some (sJoin L) := by
  simp only [F_k7d, pk_k7d]
  refine run_bind (γ := List Acc) L (fun i c => ⟨L, c, i, []⟩) (fun _ c (s : Shard) => (loopP c s.accounts).bind fun r => some (.inl r)) (fun c => some (.inl ⟨L, c, L.length, []⟩)) [] rfl ?_ ?_ ?_
  · intro i c s ha
    obtain ⟨h1, h2, h3, h4⟩ := at_ ha (sh_of (by omega))
    have hsl := hs s (List.mem_of_getElem? ha)
    simp only [h1, if_true]
    refine (run_bind (γ := List Acc) (σ := L_k7d_2) (β := L_k7d_2 ⊕ (L_k7d_0 ⊕ (L_k7d_0 ⊕ List Acc))) s.accounts (fun k c => ⟨L, c, i, k, []⟩) (fun _ c a => (F_k84 c a).bind fun r => some (.inl r)) (fun c => some (.inl ⟨L, c, i, s.accounts.length, []⟩)) c rfl ?_ ?_ rfl).trans ?_
    · intro k c a hk
      obtain ⟨g1, g2, g3, g4⟩ := at_ hk (sh_of (by omega))
      simp only [h2, h3, ha, g1, g2, g3, g4, hk, if_true, Option.bind_some]
      cases F_k84 c a <;> rfl
    · intro c; simp [ha]; try rfl
    · rw [loopP_loop]
      cases loopP c s.accounts with
      | none => rfl
      | some r => simp only [Option.bind_some]; exact (congrArg (fun z => some (Sum.inl (⟨L, r, z, []⟩ : L_k7d_0))) h4)
  · intro c; simp
  · refine (congrArg (fun x => Option.bind x _) (joinS_loop _ L 0 [] hs (by simp; omega))).trans ?_
    simp [selim, sJoin]

end Go.Vm

/- What the example of layer 16 is told, in the form in which the code asks. -/
set_option linter.unusedVariables false
set_option linter.unusedSimpArgs false
namespace Go.Vm
open Go Go.RowKit

theorem v_open : F_kc2 { shards := 1, soft := 0, hard := 1, per := 2, bump := 0, feed := 1, workers := 1, room := 1 } = some (vX 0 0 v0, 0) := by
  simp only [F_kc2, pk_kc2, p_pool_Config, Option.bind_some, F_k37, pk_k37, F_k4e, pk_k4e]
  rfl
def vt0 : Task := vNew vO
def vb0 : Task := vNew vQ
def vb1 : Task := sEnd (vNew vQ) (wrong 2).result 6
def vx0 : Sight := vX 0 0 v0
def vx2 : Sight := vX 7 0 v0
def vx4 : Sight := vX 7 1 v0
def vx5 : Sight := vX 7 1 v1
def vx6 : Sight := vX 0 1 v1
theorem w_open : F_kc2 { shards := 1, soft := 0, hard := 1, per := 2, bump := 0, feed := 1, workers := 1, room := 1 } = some (vx0, 0) := v_open
theorem w_new : F_kc1 { kind := 0, sender := 0, nonce := 0, gas := 0, data := vS } = some vt0 := rfl
theorem w_newb : F_kc1 { kind := 0, sender := 0, nonce := 0, gas := 0, data := { data := #[120] } } = some vb0 := rfl
theorem w_a0 : F_kbf vt0 7 vx0 = some true := v_a0
theorem w_a1 : F_kbf vt1 7 vx0 = some true := v_a1
theorem w_a2 : F_kbf vt2 7 vx2 = some true := v_a2
theorem w_a3 : F_kbf vt3 7 vx2 = some true := v_a3
theorem w_a4 : F_kbf vt4 7 vx4 = some true := v_a4
theorem w_a5 : F_kbf vt5 7 vx5 = some true := v_a5
theorem w_a6 : F_kbf vt6 7 vx6 = some false := v_a6
theorem w_f0 : F_kc3 vt0 7 vx0 = some (vt1, vx0, [], false) := v_f0
theorem w_f1 : F_kc3 vt1 7 vx0 = some (vt2, vx2, [], false) := v_f1
theorem w_f2 : F_kc3 vt2 7 vx2 = some (vt3, vx2, [], false) := v_f2
theorem w_f3 : F_kc3 vt3 7 vx2 = some (vt4, vx4, [vE], true) := v_f3
theorem w_f4 : F_kc3 vt4 7 vx4 = some (vt5, vx5, [], false) := v_f4
theorem w_f5 : F_kc3 vt5 7 vx5 = some (vt6, vx6, [], false) := v_f5
theorem w_fb : F_kc3 vb0 7 vx6 = some (vb1, vx6, [], true) := v_fb
theorem w_m : F_kc0 vx6 = some true := v_may
theorem w_p0 : (vt0.phase = 0) ↔ True := ⟨fun _ => trivial, fun _ => rfl⟩
theorem w_p1 : (vt1.phase = 1) ↔ True := ⟨fun _ => trivial, fun _ => rfl⟩
theorem w_p2 : (vt2.phase = 2) ↔ True := ⟨fun _ => trivial, fun _ => rfl⟩
theorem w_p3 : (vt3.phase = 3) ↔ True := ⟨fun _ => trivial, fun _ => rfl⟩
theorem w_p4 : (vt4.phase = 4) ↔ True := ⟨fun _ => trivial, fun _ => rfl⟩
theorem w_p5 : (vt5.phase = 5) ↔ True := ⟨fun _ => trivial, fun _ => rfl⟩
theorem w_p6 : (vt6.phase = 6) ↔ True := ⟨fun _ => trivial, fun _ => rfl⟩
theorem w_e6 : (vt6.result.err = 0) ↔ True := ⟨fun _ => trivial, fun _ => rfl⟩
theorem w_q6 : (vt6.point = true) ↔ True := ⟨fun _ => trivial, fun _ => rfl⟩
theorem w_k6 : (vx6.pot.taken = 1) ↔ True := ⟨fun _ => trivial, fun _ => rfl⟩
theorem w_l6 : ((vx6.shards.length : Int) = 1) ↔ True := ⟨fun _ => trivial, fun _ => rfl⟩
theorem w_l6' : (vx6.shards.length = 1) ↔ True := ⟨fun _ => trivial, fun _ => rfl⟩
def vs1 : Shard := ⟨[vA], 1⟩
theorem w_g6 : vx6.shards[0]? = some vs1 := rfl
theorem w_n6 : ((vs1.accounts.length : Int) = 1) ↔ True := ⟨fun _ => trivial, fun _ => rfl⟩
theorem w_n6' : (vs1.accounts.length = 1) ↔ True := ⟨fun _ => trivial, fun _ => rfl⟩
theorem w_v6 : (vs1.version = 1) ↔ True := ⟨fun _ => trivial, fun _ => rfl⟩
theorem w_b1 : (vb1.phase = 6) ↔ True := ⟨fun _ => trivial, fun _ => rfl⟩
theorem w_b2 : (vb1.result.err = 2) ↔ True := ⟨fun _ => trivial, fun _ => rfl⟩
theorem w_o6 : (0 < vx6.shards.length) ↔ True := ⟨fun _ => trivial, fun _ => by decide⟩

end Go.Vm

/- The example of layer 16 answers true. -/
set_option linter.unusedVariables false
set_option linter.unusedSimpArgs false
namespace Go.Vm
open Go Go.RowKit

theorem run_next {σ β : Type} {step : σ → Option (σ ⊕ β)} {s s' : σ} {r : Option β} (h : step s = some (.inl s')) (hr : run step s' = r) : run step s = r := by rw [run_eq, h]; exact hr
theorem run_stop {σ β : Type} {step : σ → Option (σ ⊕ β)} {s : σ} {b : β} (h : step s = some (.inr b)) : run step s = some b := by rw [run_eq, h]

theorem live16 : F_k34 = some true := by
  simp only [F_k34, pk_k34, w_open, v_encode, w_new, Option.bind_some]
  refine obind (r := .inl { e := 0, points := 1, i := 6, o0 := { shards := 1, soft := 0, hard := 1, per := 2, bump := 0, feed := 1, workers := 1, room := 1 }, s_ := vx6, t := vt6, events := [vE] }) ?_ ?_
  · refine run_next (s' := { e := 0, points := 0, i := 1, o0 := { shards := 1, soft := 0, hard := 1, per := 2, bump := 0, feed := 1, workers := 1, room := 1 }, s_ := vx0, t := vt1, events := [] }) ?_ ?_
    · simp only [w_a0, w_f0, Option.bind_some]; rfl
    refine run_next (s' := { e := 0, points := 0, i := 2, o0 := { shards := 1, soft := 0, hard := 1, per := 2, bump := 0, feed := 1, workers := 1, room := 1 }, s_ := vx2, t := vt2, events := [] }) ?_ ?_
    · simp only [w_a1, w_f1, Option.bind_some]; rfl
    refine run_next (s' := { e := 0, points := 0, i := 3, o0 := { shards := 1, soft := 0, hard := 1, per := 2, bump := 0, feed := 1, workers := 1, room := 1 }, s_ := vx2, t := vt3, events := [] }) ?_ ?_
    · simp only [w_a2, w_f2, Option.bind_some]; rfl
    refine run_next (s' := { e := 0, points := 1, i := 4, o0 := { shards := 1, soft := 0, hard := 1, per := 2, bump := 0, feed := 1, workers := 1, room := 1 }, s_ := vx4, t := vt4, events := [vE] }) ?_ ?_
    · simp only [w_a3, w_f3, Option.bind_some]; rfl
    refine run_next (s' := { e := 0, points := 1, i := 5, o0 := { shards := 1, soft := 0, hard := 1, per := 2, bump := 0, feed := 1, workers := 1, room := 1 }, s_ := vx5, t := vt5, events := [vE] }) ?_ ?_
    · simp only [w_a4, w_f4, Option.bind_some]; rfl
    refine run_next (s' := { e := 0, points := 1, i := 6, o0 := { shards := 1, soft := 0, hard := 1, per := 2, bump := 0, feed := 1, workers := 1, room := 1 }, s_ := vx6, t := vt6, events := [vE] }) ?_ ?_
    · simp only [w_a5, w_f5, Option.bind_some]; rfl
    refine run_stop ?_
    rfl
  · simp only [selim, w_newb, w_fb, w_a6, w_m, Option.bind_some]
    rfl

end Go.Vm

/- Why TaskAlone answers true. -/
set_option linter.unusedVariables false
set_option linter.unusedSimpArgs false
namespace Go.Vm
open Go Go.RowKit

theorem way_run {o : Op} {who : Int} {σ β : Type} {step : σ → Option (σ ⊕ β)} (S : Nat → ASt → σ) (hs : ∀ i a, i < 6 → ALive o who a → step (S i a) = some (.inl (S (i + 1) (aStep who a)))) :
    ∀ {m : Nat} {a b : ASt}, Way o who m a b → ∀ i, i + m ≤ 6 → run step (S i a) = run step (S (i + m) b) := by
  intro m a b h
  induction h with
  | done a => intro i _; rfl
  | go h e r ih =>
    intro i hi
    subst e
    rw [run_next (hs i _ (by omega) h) rfl, ih (i + 1) (by omega)]
    congr 2; omega

theorem way_bind {o : Op} {who : Int} {σ β δ : Type} {step : σ → Option (σ ⊕ β)} {s0 : σ} {g : β → Option δ} {r : Option δ} (S : Nat → ASt → σ) (a0 : ASt) (h0 : s0 = S 0 a0) {m : Nat} {b : ASt} (hm : m ≤ 6) (hw : Way o who m a0 b)
    (hs : ∀ i a, i < 6 → ALive o who a → step (S i a) = some (.inl (S (i + 1) (aStep who a)))) (he : ∃ q, step (S m b) = some (.inr q) ∧ g q = r) : (run step s0).bind g = r := by
  obtain ⟨q, h1, h2⟩ := he
  rw [h0, way_run S hs hw 0 (by omega), Nat.zero_add, run_stop h1]
  exact h2

theorem loop_all {α β : Type} (p : α → Bool) (R : β) (fin : Unit → Option β) : ∀ (k : List α) (i : Nat), loopL (γ := Unit) (fun _ _ v => if p v = true then some (.inl ()) else some (.inr R)) fin i () k = if k.all p = true then fin () else some R
  | [], i => by simp [loopL]
  | v :: k, i => by
    unfold loopL
    cases h : p v with
    | true => simp only [if_true, loop_all p R fin k (i + 1), List.all_cons, h, Bool.true_and]
    | false => simp [h]

theorem do_few {c : Config} {l : List Acc} (h : PoolS c l) {k s n : Int} {d : List UInt8} : (sDo c l k s n d).2.2.length ≤ 1000 := by
  have hc := sCfg_spec.1 h.cfg
  have hpl : (sPlan c l k s n d).events.length ≤ 1000 := by
    unfold sPlan
    split
    · rename_i hwh
      have hr := whose_range hwh
      have h1 := (sLook_len c (sGetA l (sWhose k s d).1) k n d).2.1
      have h2 := (sAcc_spec.1 (h.acc hr.1 hr.2).1).1
      omega
    · have h1 := (sLook_len c ⟨-1, 0, []⟩ k n d).2.1
      simp only [List.length_nil] at h1
      omega
  unfold sDo
  split
  · split
    · exact Nat.zero_le _
    · exact hpl
  · exact Nat.zero_le _

theorem accs_sh' {c : Config} {l : List Acc} (hc : sCfg c = true) (h : sAccs c.per 1 0 (-1) l = true) : ShA l := by
  have h1 := accs_len h (by omega)
  have hc := sCfg_spec.1 hc
  refine ⟨by omega, fun a ha => ?_⟩
  have := (sAcc_spec.1 (accs_mem h a ha).1).1
  omega

theorem may_join {x : Sight} (h : MayS x) : F_k7d x.shards = some (sJoin x.shards) ∧ ShA (sJoin x.shards) := by
  have hc := sCfg_spec.1 h.cfg
  have hl := h.slen
  refine ⟨p_r11_Join x.shards (by omega) fun s hs => ?_, accs_sh' h.cfg (join_accs (may_shs h))⟩
  obtain ⟨j, hj⟩ := List.getElem?_of_mem hs
  have hch := h.sh j s hj
  simp only [sChkS, Bool.and_eq_true] at hch
  have := accs_len hch.2 (by omega)
  omega

theorem alone_true (o : Op) (who : Int) (s : Sight) (b0 : o.data.size ≤ 1048576) (hwf : wf64 o.sender = true) (hX : ShX s) : F_k2e o who s = some true := by
  obtain ⟨sm, hsm⟩ := p_r16_Small s hX
  simp only [F_k2e, pk_k2e, hsm, p_r16_May s hX, Option.bind_some, live16]
  cases sm with
  | false => simp
  | true =>
  by_cases hd : (500 : Int) < (o.data.size : Int)
  · simp [hd]
  have hd' : (o.data.size : Int) ≤ 500 := by omega
  cases hm0 : sMay s with
  | false => simp [hd, hd']
  | true =>
  by_cases hw0 : who < 1
  · simp [hd, hd', hw0]
  have hw : 1 ≤ who := by omega
  by_cases hk0 : o.kind < 0
  · simp [hd, hd', hw0, hw, hk0]
  have hk0' : 0 ≤ o.kind := by omega
  by_cases hk3 : 3 < o.kind
  · simp [hd, hd', hw0, hw, hk0, hk0', hk3]
  have hm := may_spec.1 hm0
  have hc := sCfg_spec.1 hm.cfg
  obtain ⟨hj, hjA⟩ := may_join hm
  simp only [hd, hd', hw0, hw, hk0, hk0', hk3, Bool.true_eq_false, or_false, false_or, and_self, if_true, if_false, or_true, hj, Option.bind_some]
  have hloop : ∀ (G : L_k2e_0 ⊕ Bool → Option Bool), (G (.inr true) = some true) → ((∀ v ∈ s.locks, v = 0) → s.pot.taken = sSlots (sJoin s.shards) → G (.inl ⟨who, sJoin s.shards, s.locks.length, o, s⟩) = some true) →
      (loopL (γ := Unit) (fun _ _ v => if decide (v = 0 ∧ s.pot.taken = sSlots (sJoin s.shards)) = true then some (.inl ()) else some (.inr (.inr true))) (fun _ => some (.inl ⟨who, sJoin s.shards, s.locks.length, o, s⟩)) 0 () s.locks).bind G = some true := by
    intro G h1 h2
    rw [loop_all]
    split
    · rename_i hall
      rw [List.all_eq_true] at hall
      have hne : s.locks ≠ [] := by
        intro e
        have := hm.llen
        rw [e] at this
        simp at this
        omega
      obtain ⟨v, hv⟩ := List.exists_mem_of_ne_nil _ hne
      have := of_decide_eq_true (hall v hv)
      exact h2 (fun v hv => (of_decide_eq_true (hall v hv)).1) this.2
    · exact h1
  refine run_bind (γ := Unit) s.locks (fun i _ => ⟨who, sJoin s.shards, i, o, s⟩) (fun _ _ v => if decide (v = 0 ∧ s.pot.taken = sSlots (sJoin s.shards)) = true then some (.inl ()) else some (.inr (.inr true))) (fun _ => some (.inl ⟨who, sJoin s.shards, s.locks.length, o, s⟩)) () rfl ?_ ?_ (hloop _ rfl ?_)
  · intro i _ v hv
    obtain ⟨h1, h2, h3, h4⟩ := at_ hv (sh_of hX.1)
    simp only [h1, h2, h3, h4, hv, if_true, Option.bind_some, p_r13_Slots _ hjA]
    by_cases g1 : v = 0
    · by_cases g2 : s.pot.taken = sSlots (sJoin s.shards)
      · simp [g1, g2]
      · simp [g1, g2]
    · simp [g1]
  · intro _; simp
  intro hz ht
  have hP := pool_of hm ht
  obtain ⟨m, b, hm6, hway, hfin⟩ := alone o who s hm hw hk0' (by omega) (fun i v hv => hz v (List.mem_of_getElem? hv)) ht
  simp only [selim, p_pool_Do hP hk0' (by omega : o.kind ≤ 3) hwf b0, v_new, p_law16_OwnSight s hX, Option.bind_some]
  obtain ⟨D, hD⟩ : ∃ D, D = sDo s.config (sJoin s.shards) o.kind o.sender o.nonce (L o.data) := ⟨_, rfl⟩
  have hfew : D.2.2.length ≤ 1000 := by rw [hD]; exact do_few hP
  have hbr := hfin.res; have hbe := hfin.ev; have hba := hfin.acc
  rw [← hD] at hbr hbe hba ⊢
  refine way_bind (fun i a => ({ who := who, l := sJoin s.shards, i := (s.locks.length : Int), after := D.1, events := D.2.2, points := (a.n : Int), i2 := (i : Int), o := o, s_ := s, r := D.2.1, t := a.t, x := a.x, told := a.ev } : L_k2e_2)) ⟨vNew o, s, [], 0⟩ rfl hm6 hway ?_ ?_
  · intro i a hi ha
    have h1 : (i : Int) < 6 := by omega
    have hX1 := may_sh ha.inv.may
    have hab := p_task_Able a.t who a.x hX1
    rw [ha.able] at hab
    have hst := p_task_Step (who := who) ha.inv b0
    have hwr : IntKind.i64.wrap ((i : Int) + 1) = ((i + 1 : Nat) : Int) := wrap_add1 i (by omega)
    have hwn : IntKind.i64.wrap ((a.n : Int) + 1) = ((a.n + 1 : Nat) : Int) := wrap_add1 a.n (by have := ha.nn; omega)
    have hfe := step_few (who := who) ha.inv
    have hr : (a.ev.length + (sStep a.t who a.x).2.2.1.length) * 72 ≤ 140737488355328 := by
      have := ha.few
      omega
    simp only [h1, ha.ph, not_false_eq_true, and_self, if_true, hab, hst, Option.bind_some, Bool.true_eq_false, if_false, hr, hwr, hwn, aStep]
    cases hp : (sStep a.t who a.x).2.2.2 with
    | true =>
      by_cases he : (sStep a.t who a.x).2.2.1 = []
      · simp [he]
      · simp [he]
    | false =>
      by_cases he : (sStep a.t who a.x).2.2.1 = []
      · simp [he]
      · simp [he]
  · refine ⟨_, by simp [hfin.ph]; try rfl, ?_⟩
    have hX2 := may_sh hfin.inv.may
    obtain ⟨hj2, hjA2⟩ := may_join hfin.inv.may
    have hmy : sMay b.x = true := may_spec.2 hfin.inv.may
    have hSame : F_k8f D.2.1 D.2.1 = some true := by rw [← hbr]; exact p_r13_Same _ (by have := hfin.inv.fewR; simp only [Short]; omega)
    have hEv : F_k8c D.2.2 D.2.2 = some true := p_r13_Events D.2.2 (by simp only [Short]; omega)
    have hAcc : F_k79 D.1 D.1 = some true := by rw [← hba]; exact p_r11_Accounts _ hjA2
    simp only [selim, p_law16_ToldSight b.x hX2, Option.bind_some, hfin.ph, hfin.n, if_true, show ((1 : Nat) : Int) = 1 from rfl, p_r16_May b.x hX2, hmy, Bool.true_eq_false, if_false, hbr, hSame, hbe, hEv, hj2, p_r13_Slots _ hjA2, hfin.pot]
    refine run_bind (γ := Unit) b.x.locks (fun i _ => ({ who := who, l := sJoin s.shards, i := (s.locks.length : Int), after := D.1, events := D.2.2, points := 1, i2 := (m : Int), i3 := (i : Int), o := o, s_ := s, r := D.2.1, t := b.t, x := b.x, told := D.2.2, y := b.x } : L_k2e_4)) (fun _ _ v => if decide (v = 0) = true then some (.inl ()) else some (.inr (.inr false))) (fun _ => some (.inl { who := who, l := sJoin s.shards, i := (s.locks.length : Int), after := D.1, events := D.2.2, points := 1, i2 := (m : Int), i3 := (b.x.locks.length : Int), o := o, s_ := s, r := D.2.1, t := b.t, x := b.x, told := D.2.2, y := b.x })) () rfl ?_ ?_ ?_
    · intro i _ v hv
      obtain ⟨h1, h2, h3, h4⟩ := at_ hv (sh_of hX2.1)
      simp only [h1, h2, h3, h4, hv, if_true, Option.bind_some]
      by_cases g1 : v = 0 <;> simp [g1]
    · intro _; simp
    · rw [loop_all, if_pos (List.all_eq_true.2 fun v hv => by rw [hfin.locks] at hv; simpa using hz v hv)]
      simp only [Option.bind_some, selim, hj2, hba, hAcc]
      rfl

end Go.Vm
