/- Layers 2, 7, 9, 11, 13, 16: the small functions, program = document. -/
import Derived.Test.YtmdccbecmilljaaGreatP
import Derived.Test.YtmdccbecmilljaaGreatYa
import Derived.Test.YtmdccbecmilljaaGreatYb
import Derived.Test.YtmdccbecmilljaaGreatK
import Derived.Test.YtmdccbecmilljaaGreatYc
import Derived.Test.YtmdccbecmilljaaGreatWd

set_option linter.unusedVariables false
set_option linter.unusedSimpArgs false
namespace Go.Vm
open Go Go.RowKit

def sCfg (c : Config) : Bool := decide (1 ≤ c.shards ∧ c.shards ≤ 8 ∧ 0 ≤ c.soft ∧ c.soft ≤ c.hard ∧ 1 ≤ c.hard ∧ c.hard ≤ 1000 ∧ 1 ≤ c.per ∧ c.per ≤ 16 ∧ 0 ≤ c.bump ∧ c.bump ≤ 100 ∧ 1 ≤ c.feed ∧ c.feed ≤ 16 ∧ 1 ≤ c.workers ∧ c.workers ≤ 4 ∧ 1 ≤ c.room ∧ c.room ≤ 8)

theorem p_pool_in (n a b : Int) : F_k2c n a b = some (decide (a ≤ n ∧ n ≤ b)) := by
  simp only [F_k2c, pk_k2c]
  split
  · congr 1; rw [decide_eq_decide]; omega
  · congr 1; exact (decide_eq_false (by omega)).symm

theorem p_pool_Config (c : Config) : F_k2b c = some (sCfg c) := by
  simp only [F_k2b, pk_k2b, p_pool_in, Option.bind_some, decide_eq_true_eq, sCfg]
  repeat' split
  all_goals first
    | (congr 1; rw [decide_eq_decide]; omega)
    | (congr 1; exact (decide_eq_false (by omega)).symm)

theorem ite_f {P : Prop} [Decidable P] {x : Option Bool} {q : Bool} (h : x = some q) : (if P then some false else x) = some (!decide P && q) := by
  by_cases hp : P <;> simp [hp, h]
theorem ite_t {P : Prop} [Decidable P] {x : Option Bool} {q : Bool} (h : x = some q) : (if P then x else some false) = some (decide P && q) := by
  by_cases hp : P <;> simp [hp, h]

theorem p_r13_Config (c : Config) : F_k5a c = some (sCfg c) := by
  simp only [F_k5a, pk_k5a, sCfg]
  refine (ite_f (ite_f (ite_f (ite_f (ite_f (ite_f (ite_f (ite_f (ite_t (ite_t (ite_t (ite_t (ite_t (ite_t (ite_t rfl))))))))))))))).trans ?_
  congr 1
  rw [Bool.eq_iff_iff]
  simp only [Bool.and_eq_true, Bool.not_eq_true', decide_eq_true_eq, decide_eq_false_iff_not]
  omega

def hsh (a : Int) : Int := IntKind.u64.wrap (bits .xor .u64 14695981039346656037 (IntKind.u64.wrap ((UInt8.ofNat (IntKind.u8.wrap a).toNat).toNat : Int)) * 1099511628211)
def sShd (a n : Int) : Int := if 0 ≤ a ∧ a ≤ 255 ∧ 1 ≤ n ∧ n ≤ 8 then hsh a % n else -1

theorem u64_range (x : Int) : 0 ≤ IntKind.u64.wrap x ∧ IntKind.u64.wrap x < 18446744073709551616 := by
  simp only [IntKind.wrap, IntKind.bits, IntKind.signed]; simp; omega
theorem u64_id {x : Int} (h0 : 0 ≤ x) (h1 : x < 18446744073709551616) : IntKind.u64.wrap x = x := by
  simp only [IntKind.wrap, IntKind.bits, IntKind.signed]; simp; omega
theorem i64_id {x : Int} (h0 : -9223372036854775808 ≤ x) (h1 : x ≤ 9223372036854775807) : IntKind.i64.wrap x = x := by
  simp only [IntKind.wrap, IntKind.bits, IntKind.signed]; simp; omega

theorem one_str (a : Int) : strOfNums [IntKind.u8.wrap a] = mk [UInt8.ofNat (IntKind.u8.wrap a).toNat] := by
  exact strOfNums_cons _ _ (Int.toNat_of_nonneg (by rw [wrap_u8m]; omega)).symm [] [] rfl

theorem p_fnv_Roll (h : Int) (b : UInt8) : F_k0a h (mk [b]) = some (IntKind.u64.wrap (bits .xor .u64 h (IntKind.u64.wrap (b.toNat : Int)) * 1099511628211)) := by
  have w1 : IntKind.i64.wrap (0 + 1) = 1 := by decide
  have g : (mk [b])[(0 : Nat)]? = some b := by rw [mk_get]; rfl
  have key : run (fun s : L_k0a_0 => if s.i < (s.s_.size : Int) then (if 0 ≤ s.i then s.s_[s.i.toNat]?.bind fun a => some (Sum.inl { h := IntKind.u64.wrap (bits BinOp.xor IntKind.u64 s.h (IntKind.u64.wrap (a.toNat : Int)) * 1099511628211), s_ := s.s_, i := IntKind.i64.wrap (s.i + 1) }) else none) else some (Sum.inr s.h)) { h := h, s_ := mk [b], i := 0 } = some (IntKind.u64.wrap (bits .xor .u64 h (IntKind.u64.wrap (b.toNat : Int)) * 1099511628211)) := by
    rw [run_eq]
    simp only [mk_size, List.length_singleton, Int.toNat_zero, g, w1, Option.bind_some, show (0 : Int) < ((1 : Nat) : Int) from by decide, show (0 : Int) ≤ 0 from by decide, if_true]
    rw [run_eq]
    simp [mk_size]
  simp only [F_k0a, pk_k0a]
  exact key

theorem p_r02_Roll (h : Int) (b : UInt8) : F_k3d h (mk [b]) = some (IntKind.u64.wrap (bits .xor .u64 h (IntKind.u64.wrap (b.toNat : Int)) * 1099511628211)) := by
  have w1 : IntKind.i64.wrap (0 + 1) = 1 := by decide
  have g : (mk [b])[(0 : Nat)]? = some b := by rw [mk_get]; rfl
  have key : run (fun s : L_k3d_0 => if s.i < (s.s_.size : Int) then (if 0 ≤ s.i then s.s_[s.i.toNat]?.bind fun a => some (Sum.inl { h := IntKind.u64.wrap (bits BinOp.xor IntKind.u64 s.h (IntKind.u64.wrap (a.toNat : Int)) * 1099511628211), s_ := s.s_, i := IntKind.i64.wrap (s.i + 1) }) else none) else some (Sum.inr (Sum.inl ({ h := s.h, s_ := s.s_, i := s.i } : L_k3d_0) : L_k3d_0 ⊕ Int))) { h := h, s_ := mk [b], i := 0 } = some (Sum.inl { h := IntKind.u64.wrap (bits .xor .u64 h (IntKind.u64.wrap (b.toNat : Int)) * 1099511628211), s_ := mk [b], i := 1 }) := by
    rw [run_eq]
    simp only [mk_size, List.length_singleton, Int.toNat_zero, g, w1, Option.bind_some, show (0 : Int) < ((1 : Nat) : Int) from by decide, show (0 : Int) ≤ 0 from by decide, if_true]
    rw [run_eq]
    simp [mk_size]
  simp only [F_k3d, pk_k3d]
  exact (congrArg (fun x => Option.bind x _) key).trans rfl

theorem shd_fin {a n : Int} (ha : 0 ≤ a ∧ a ≤ 255 ∧ 1 ≤ n ∧ n ≤ 8) : (if IntKind.u64.wrap n = 0 then (none : Option Int) else some (IntKind.i64.wrap ((hsh a).tmod (IntKind.u64.wrap n)))) = some (sShd a n) := by
  have e : IntKind.u64.wrap n = n := u64_id (by omega) (by omega)
  have hh : 0 ≤ hsh a := (u64_range _).1
  rw [e, if_neg (by omega), sShd, if_pos ha, Int.tmod_eq_emod_of_nonneg hh]
  have h1 := Int.emod_nonneg (hsh a) (b := n) (by omega)
  have h2 := Int.emod_lt_of_pos (hsh a) (b := n) (by omega)
  rw [i64_id (by omega) (by omega)]

theorem p_fnv_Shard (a n : Int) : F_k0b a n = some (sShd a n) := by
  simp only [F_k0b, pk_k0b, F_k09, pk_k09, one_str, p_fnv_Roll, Option.bind_some]
  by_cases h : 0 ≤ a ∧ a ≤ 255 ∧ 1 ≤ n ∧ n ≤ 8
  · rw [if_neg (by omega), if_neg (by omega), if_neg (by omega), if_neg (by omega)]
    exact shd_fin h
  · rw [sShd, if_neg h]
    repeat' split
    all_goals first | rfl | omega

theorem p_r02_Shard (a n : Int) : F_k3e a n = some (sShd a n) := by
  simp only [F_k3e, pk_k3e, F_k3c, pk_k3c, one_str, p_r02_Roll, Option.bind_some]
  by_cases h : 0 ≤ a ∧ a ≤ 255 ∧ 1 ≤ n ∧ n ≤ 8
  · rw [if_neg (by omega), if_neg (by omega), if_neg (by omega), if_neg (by omega)]
    exact shd_fin h
  · rw [sShd, if_neg h]
    repeat' split
    all_goals first | rfl | omega

theorem shd_range (a n : Int) : -1 ≤ sShd a n ∧ (1 ≤ n → sShd a n < n) := by
  unfold sShd
  split
  · have h1 := Int.emod_nonneg (hsh a) (b := n) (by omega)
    have h2 := Int.emod_lt_of_pos (hsh a) (b := n) (by omega)
    omega
  · omega

def sFree (t : List Int) (i : Int) : Bool := decide (0 ≤ i) && decide (t[i.toNat]? = some 0)
theorem p_lock_is (t : List Int) (i : Int) : F_k1d t i = some (decide (0 ≤ i ∧ i < t.length)) := by
  simp only [F_k1d, pk_k1d]
  split
  · congr 1; rw [decide_eq_decide]; omega
  · congr 1; exact (decide_eq_false (by omega)).symm
theorem p_lock_Free (t : List Int) (i : Int) : F_k19 t i = some (sFree t i) := by
  simp only [F_k19, pk_k19, p_lock_is, Option.bind_some, decide_eq_true_eq, sFree]
  split
  · rename_i h
    rw [if_pos h.1]
    have hl : i.toNat < t.length := by omega
    rw [List.getElem?_eq_getElem hl]
    simp [h.1]
  · rename_i h
    by_cases h0 : 0 ≤ i
    · rw [List.getElem?_eq_none (by omega)]; simp
    · simp [h0]

theorem p_Clone_Table (l : List Int) (hl : l.length ≤ 1000000) : F_k75 l = some l := by
  simp only [F_k75, pk_k75]
  have h8 : l.length * 8 ≤ 140737488355328 := by omega
  cases l with
  | nil => simp [wboth]
  | cons x l => rw [if_neg (List.cons_ne_nil _ _), if_pos h8, if_neg (List.cons_ne_nil _ _)]

theorem p_lock_set (t : List Int) (i : Nat) (v : Int) (hi : i < t.length) (hl : t.length ≤ 1000000) : F_k1e t i v = some (t.set i v) := by
  simp only [F_k1e, pk_k1e, p_Clone_Table t hl, Option.bind_some]
  have h1 : (0 : Int) ≤ (i : Int) ∧ (i : Int) < (t.length : Int) := by omega
  have h2 : ((i : Nat) : Int).toNat = i := by omega
  rw [if_pos h1, h2, List.getElem?_eq_getElem hi]
  simp only [Option.bind_some, hi, if_true]

theorem p_lock_Take (t : List Int) (i : Nat) (v : Int) (hi : t[i]? = some 0) (hl : t.length ≤ 1000000) (hv : 1 ≤ v) : F_k1c t i v = some (t.set i v, 0) := by
  have hlt := (List.getElem?_eq_some_iff.1 hi).1
  have e1 : decide ((0 : Int) ≤ (i : Int) ∧ (i : Int) < (t.length : Int)) = true := decide_eq_true (by omega)
  have e2 : sFree t (i : Int) = true := by unfold sFree; simp [hi]
  simp only [F_k1c, pk_k1c, p_lock_is, p_lock_Free, Option.bind_some, p_lock_set t i v hlt hl, e1, e2, Bool.true_eq_false, if_false]
  rw [if_neg (by omega)]

theorem p_lock_Give (t : List Int) (i : Nat) (v : Int) (hi : t[i]? = some v) (hl : t.length ≤ 1000000) (hv : 1 ≤ v) : F_k1a t i v = some (t.set i 0, 0) := by
  have hlt := (List.getElem?_eq_some_iff.1 hi).1
  have e1 : decide ((0 : Int) ≤ (i : Int) ∧ (i : Int) < (t.length : Int)) = true := decide_eq_true (by omega)
  have e3 : ((i : Nat) : Int).toNat = i := by omega
  simp only [F_k1a, pk_k1a, p_lock_is, Option.bind_some, p_lock_set t i 0 hlt hl, e1, e3, hi, Bool.true_eq_false, if_false, if_true]
  rw [if_neg (by omega), if_pos (by omega)]

def sAdj (p : Pot) (d : Int) : Pot × Int :=
  if ¬ (1 ≤ p.most ∧ p.most ≤ 1000 ∧ 0 ≤ p.taken ∧ p.taken ≤ p.most) ∨ d < -p.taken then (p, 1)
  else if p.most - p.taken < d then (p, 6) else (⟨p.taken + d, p.most⟩, 0)

theorem p_pot_may (p : Pot) : F_k2f p = some (decide (1 ≤ p.most ∧ p.most ≤ 1000 ∧ 0 ≤ p.taken ∧ p.taken ≤ p.most)) := by
  simp only [F_k2f, pk_k2f]
  repeat' split
  all_goals first
    | (congr 1; rw [decide_eq_decide]; omega)
    | (congr 1; exact (decide_eq_false (by omega)).symm)

theorem p_pot_Adjust (p : Pot) (d : Int) (hd : -1000000 ≤ d ∧ d ≤ 1000000) : F_k2d p d = some (sAdj p d) := by
  simp only [F_k2d, pk_k2d, p_pot_may, Option.bind_some]
  by_cases h : 1 ≤ p.most ∧ p.most ≤ 1000 ∧ 0 ≤ p.taken ∧ p.taken ≤ p.most
  · rw [decide_eq_true h, if_neg (by simp)]
    have e0 : IntKind.i64.wrap (-p.taken) = -p.taken := i64_id (by omega) (by omega)
    have e1 : IntKind.i64.wrap (p.taken + d) = p.taken + d := i64_id (by omega) (by omega)
    have e2 : IntKind.i64.wrap (p.most - p.taken) = p.most - p.taken := i64_id (by omega) (by omega)
    simp only [F_k6a, pk_k6a, e0, e1, e2, sAdj]
    by_cases h1 : d < -p.taken
    · rw [if_pos h1, if_pos (.inr h1)]
    · rw [if_neg h1, if_neg (show ¬ (¬ (1 ≤ p.most ∧ p.most ≤ 1000 ∧ 0 ≤ p.taken ∧ p.taken ≤ p.most) ∨ d < -p.taken) from fun hh => hh.elim (fun q => q h) h1)]
      by_cases h2 : d < 0
      · rw [if_pos h2, if_neg (by omega)]
      · rw [if_neg h2, if_neg (by omega), if_neg h2, if_neg (by omega)]
        by_cases h3 : p.most - p.taken < d
        · rw [if_pos h3, if_pos h3]; simp
        · rw [if_neg h3, if_neg h3]; simp
  · rw [decide_eq_false h, if_pos rfl, sAdj, if_pos (.inl h)]

theorem p_shard_empty (a : Acc) : F_k72 a = some (decide (a.base = 0 ∧ a.txs = [])) := by
  simp only [F_k72, pk_k72]
  split
  · rename_i h; simp [h]
  · rename_i h; simp [h]
theorem p_r11_empty (a : Acc) : F_k59 a = some (decide (a.base = 0 ∧ a.txs = [])) := by
  simp only [F_k59, pk_k59]
  split
  · rename_i h; simp [h]
  · rename_i h; simp [h]

end Go.Vm

/- Layers 11 and 16, plain: what a step of a task comes to, and what it keeps. -/
set_option linter.unusedVariables false
set_option linter.unusedSimpArgs false
namespace Go.Vm
open Go Go.RowKit

def emp (a : Acc) : Bool := decide (a.base = 0 ∧ a.txs = [])
def zShd : Shard := ⟨[], 0⟩
def sAccs (per n k : Int) : Int → List Acc → Bool
  | _, [] => true
  | last, a :: l => (sAcc a per && !emp a && decide (last < a.sender) && decide (sShd a.sender n = k)) && sAccs per n k a.sender l
def sChkS (c : Config) (k : Int) (s : Shard) : Bool := decide (0 ≤ s.version ∧ s.version ≤ 1099511627776) && sAccs c.per c.shards k (-1) s.accounts

def sInsA (a : Acc) : List Acc → List Acc
  | [] => [a]
  | x :: l => if a.sender < x.sender then a :: x :: l else x :: sInsA a l
def sDelA (l : List Acc) (n : Int) : List Acc := l.filter fun x => !decide (x.sender = n)
def sSetL (l : List Acc) (a : Acc) : List Acc := if emp a = true then sDelA l a.sender else sInsA a (sDelA l a.sender)
def sSet (s : Shard) (a : Acc) : Shard := ⟨sSetL s.accounts a, if s.version < 0 ∨ 1099511627776 ≤ s.version then 0 else s.version + 1⟩

theorem accs_cons {per n k last : Int} {a : Acc} {l : List Acc} : sAccs per n k last (a :: l) = true ↔ (sAcc a per = true ∧ emp a = false ∧ last < a.sender ∧ sShd a.sender n = k) ∧ sAccs per n k a.sender l = true := by
  simp [sAccs, and_assoc]

theorem accs_mono {per n k : Int} : ∀ {l : List Acc} {last last' : Int}, last' ≤ last → sAccs per n k last l = true → sAccs per n k last' l = true
  | [], _, _, _, _ => rfl
  | a :: l, last, last', h, hl => by
    rw [accs_cons] at hl ⊢
    exact ⟨⟨hl.1.1, hl.1.2.1, by have := hl.1.2.2.1; omega, hl.1.2.2.2⟩, hl.2⟩

theorem accs_filter {per n k : Int} (p : Acc → Bool) : ∀ {l : List Acc} {last : Int}, sAccs per n k last l = true → sAccs per n k last (l.filter p) = true
  | [], _, _ => rfl
  | a :: l, last, hl => by
    rw [accs_cons] at hl
    rw [List.filter_cons]
    split
    · exact accs_cons.2 ⟨hl.1, accs_filter p hl.2⟩
    · exact accs_mono (by have := hl.1.2.2.1; omega) (accs_filter p hl.2)

theorem accs_ins {per n k : Int} {a : Acc} (ha : sAcc a per = true) (he : emp a = false) (hs : sShd a.sender n = k) : ∀ {l : List Acc} {last : Int}, last < a.sender → (∀ x ∈ l, x.sender ≠ a.sender) → sAccs per n k last l = true → sAccs per n k last (sInsA a l) = true
  | [], last, h1, _, _ => accs_cons.2 ⟨⟨ha, he, h1, hs⟩, rfl⟩
  | x :: l, last, h1, h2, hl => by
    rw [accs_cons] at hl
    unfold sInsA
    split
    · rename_i h
      exact accs_cons.2 ⟨⟨ha, he, h1, hs⟩, accs_cons.2 ⟨⟨hl.1.1, hl.1.2.1, h, hl.1.2.2.2⟩, hl.2⟩⟩
    · rename_i h
      have := h2 x (List.mem_cons_self)
      exact accs_cons.2 ⟨hl.1, accs_ins ha he hs (by omega) (fun y hy => h2 y (List.mem_cons_of_mem _ hy)) hl.2⟩

theorem accs_set {per n k last : Int} {a : Acc} {l : List Acc} (hl : sAccs per n k last l = true) (ha : sAcc a per = true) (hs : sShd a.sender n = k) (h1 : last < a.sender) : sAccs per n k last (sSetL l a) = true := by
  unfold sSetL
  have hd : sAccs per n k last (sDelA l a.sender) = true := accs_filter _ hl
  split
  · exact hd
  · rename_i he
    refine accs_ins ha (by simpa using he) hs h1 (fun x hx => ?_) hd
    have := (List.mem_filter.1 hx).2
    simpa using this

theorem chkS_set {c : Config} {k : Int} {s : Shard} {a : Acc} (h : sChkS c k s = true) (ha : sAcc a c.per = true) (hs : sShd a.sender c.shards = k) : sChkS c k (sSet s a) = true := by
  simp only [sChkS, Bool.and_eq_true, decide_eq_true_eq] at h ⊢
  refine ⟨?_, accs_set h.2 ha hs (by have := (sAcc_spec.1 ha).1; omega)⟩
  simp only [sSet]
  split
  · omega
  · omega

theorem accs_len {per n k : Int} : ∀ {l : List Acc} {last : Int}, sAccs per n k last l = true → last ≤ 255 → (l.length : Int) ≤ 255 - last
  | [], last, _, h => by simp; omega
  | a :: l, last, hl, h => by
    rw [accs_cons] at hl
    have hb := (sAcc_spec.1 hl.1.1).1
    have := accs_len hl.2 (by omega)
    have := hl.1.2.2.1
    simp only [List.length_cons]
    omega

theorem accs_mem {per n k : Int} : ∀ {l : List Acc} {last : Int}, sAccs per n k last l = true → ∀ a ∈ l, sAcc a per = true ∧ emp a = false ∧ sShd a.sender n = k
  | [], _, _, a, h => by cases h
  | x :: l, last, hl, a, h => by
    rw [accs_cons] at hl
    rcases List.mem_cons.1 h with rfl | h
    · exact ⟨hl.1.1, hl.1.2.1, hl.1.2.2.2⟩
    · exact accs_mem hl.2 a h

theorem getA_acc {per n k last : Int} {l : List Acc} (hl : sAccs per n k last l = true) {s : Int} (h0 : 0 ≤ s) (h1 : s ≤ 255) (hp : 1 ≤ per ∧ per ≤ 16) : sAcc (sGetA l s) per = true ∧ (sGetA l s).sender = s := by
  unfold sGetA
  cases hf : l.find? (fun a => decide (a.sender = s)) with
  | none =>
    refine ⟨sAcc_spec.2 ⟨by simp; omega, rfl⟩, rfl⟩
  | some a =>
    exact ⟨(accs_mem hl a (List.mem_of_find?_eq_some hf)).1, by simpa using List.find?_some hf⟩

def allI {α : Type} (p : Nat → α → Bool) : Nat → List α → Bool
  | _, [] => true
  | i, a :: l => p i a && allI p (i + 1) l
theorem allI_iff {α : Type} {p : Nat → α → Bool} : ∀ {l : List α} {i : Nat}, allI p i l = true ↔ ∀ (j : Nat) a, l[j]? = some a → p (i + j) a = true
  | [], i => by simp [allI]
  | x :: l, i => by
    simp only [allI, Bool.and_eq_true, allI_iff (l := l)]
    constructor
    · rintro ⟨h1, h2⟩ j a h
      cases j with
      | zero => simp at h; subst h; exact h1
      | succ j =>
        have := h2 j a (by simpa using h)
        rwa [show i + 1 + j = i + (j + 1) from by omega] at this
    · intro h
      refine ⟨h 0 x rfl, fun j a hj => ?_⟩
      rw [show i + 1 + j = i + (j + 1) from by omega]
      exact h (j + 1) a (by simpa using hj)

def sMay (x : Sight) : Bool :=
  sCfg x.config && decide ((x.locks.length : Int) = x.config.shards ∧ (x.shards.length : Int) = x.config.shards ∧ x.pot.most = x.config.hard ∧ 0 ≤ x.pot.taken ∧ x.pot.taken ≤ x.config.hard)
    && allI (fun i s => decide (0 ≤ (x.locks[i]?).getD 0) && sChkS x.config i s) 0 x.shards

theorem sCfg_spec {c : Config} : sCfg c = true ↔ (1 ≤ c.shards ∧ c.shards ≤ 8 ∧ 0 ≤ c.soft ∧ c.soft ≤ c.hard ∧ 1 ≤ c.hard ∧ c.hard ≤ 1000 ∧ 1 ≤ c.per ∧ c.per ≤ 16 ∧ 0 ≤ c.bump ∧ c.bump ≤ 100 ∧ 1 ≤ c.feed ∧ c.feed ≤ 16 ∧ 1 ≤ c.workers ∧ c.workers ≤ 4 ∧ 1 ≤ c.room ∧ c.room ≤ 8) := by
  unfold sCfg; rw [decide_eq_true_eq]

structure MayS (x : Sight) : Prop where
  cfg : sCfg x.config = true
  llen : (x.locks.length : Int) = x.config.shards
  slen : (x.shards.length : Int) = x.config.shards
  most : x.pot.most = x.config.hard
  tk0 : 0 ≤ x.pot.taken
  tk1 : x.pot.taken ≤ x.config.hard
  lk : ∀ (i : Nat) v, x.locks[i]? = some v → 0 ≤ v
  sh : ∀ (i : Nat) s, x.shards[i]? = some s → sChkS x.config i s = true

theorem may_spec {x : Sight} : sMay x = true ↔ MayS x := by
  simp only [sMay, Bool.and_eq_true, decide_eq_true_eq, allI_iff, Nat.zero_add]
  constructor
  · rintro ⟨⟨h1, h2, h3, h4, h5, h6⟩, h7⟩
    refine ⟨h1, h2, h3, h4, h5, h6, fun i v hv => ?_, fun i s hs => (h7 i s hs).2⟩
    have hi := (List.getElem?_eq_some_iff.1 hv).1
    have hl : i < x.shards.length := by omega
    have := (h7 i _ (List.getElem?_eq_getElem hl)).1
    rwa [hv] at this
  · rintro ⟨h1, h2, h3, h4, h5, h6, h7, h8⟩
    refine ⟨⟨h1, h2, h3, h4, h5, h6⟩, fun i s hs => ⟨?_, h8 i s hs⟩⟩
    have hi := (List.getElem?_eq_some_iff.1 hs).1
    have hl : i < x.locks.length := by omega
    have := h7 i _ (List.getElem?_eq_getElem hl)
    rwa [List.getElem?_eq_getElem hl]

def sEnd (t : Task) (r : Result) (ph : Int) : Task := { t with phase := ph, result := r, point := true }
def sK (t : Task) (x : Sight) : Int := sShd t.sender x.config.shards
def sAble (t : Task) (who : Int) (x : Sight) : Bool :=
  if who < 1 ∨ t.phase < 0 ∨ 5 < t.phase ∨ sMay x = false then false
  else if t.phase = 0 then true
  else if t.phase = 1 then sFree x.locks (sK t x)
  else decide (0 ≤ sK t x) && decide (x.locks[(sK t x).toNat]? = some who)
def sShard (t : Task) (x : Sight) : Shard := (x.shards[(sK t x).toNat]?).getD zShd
def sSee (t : Task) (x : Sight) : Plan := sLook x.config (sGetA (sShard t x).accounts t.sender) t.op.kind t.op.nonce (L t.op.data)

def sStep (t : Task) (who : Int) (x : Sight) : Task × Sight × List Event × Bool :=
  if sAble t who x = false then (t, x, [], false)
  else if t.phase = 0 then
    if (sWhose t.op.kind t.op.sender (L t.op.data)).2 = true then ({ t with sender := (sWhose t.op.kind t.op.sender (L t.op.data)).1, phase := 1 }, x, [], false)
    else (sEnd t (sLook x.config ⟨-1, 0, []⟩ t.op.kind t.op.nonce (L t.op.data)).result 6, x, [], true)
  else if t.phase = 1 then ({ t with phase := 2 }, { x with locks := x.locks.set (sK t x).toNat who }, [], false)
  else if t.phase = 2 then
    if (sSee t x).changes = true then ({ t with plan := sSee t x, phase := 3 }, x, [], false)
    else (sEnd { t with plan := sSee t x } (sSee t x).result 5, x, [], true)
  else if t.phase = 3 then
    if (sAdj x.pot t.plan.delta).2 = 0 then (sEnd t t.plan.result 4, { x with pot := (sAdj x.pot t.plan.delta).1 }, t.plan.events, true)
    else (sEnd t (sFull t.plan) 5, x, [], true)
  else if t.phase = 4 then ({ t with phase := 5 }, { x with shards := x.shards.set (sK t x).toNat (sSet (sShard t x) t.plan.after) }, [], false)
  else ({ t with phase := 6 }, { x with locks := x.locks.set (sK t x).toNat 0 }, [], false)

structure TInv (o : Op) (t : Task) (x : Sight) : Prop where
  op : t.op = o
  may : MayS x
  ph0 : 0 ≤ t.phase
  ph1 : t.phase ≤ 6
  pt : t.point = decide (4 ≤ t.phase)
  snd : 1 ≤ t.phase → t.phase ≤ 5 → 0 ≤ t.sender ∧ t.sender ≤ 255
  plan : t.phase = 3 ∨ t.phase = 4 → sAcc t.plan.after x.config.per = true ∧ t.plan.after.sender = t.sender ∧ -1000 ≤ t.plan.delta ∧ t.plan.delta ≤ 1000
  fewA : t.plan.after.txs.length ≤ 1000
  fewE : t.plan.events.length ≤ 1000
  fewP : t.plan.result.txs.length ≤ 1000
  fewR : t.result.txs.length ≤ 1000

theorem whose_range {k s : Int} {l : List UInt8} (h : (sWhose k s l).2 = true) : 0 ≤ (sWhose k s l).1 ∧ (sWhose k s l).1 ≤ 255 := by
  unfold sWhose at h ⊢
  split at h
  · rename_i hk
    rw [if_pos hk]
    cases hd : sDec l with
    | none => simp [decR, zTx]
    | some t =>
      have := sTx_spec (sDec_ok hd)
      simp only [decR]
      omega
  · rename_i hk
    rw [if_neg hk]
    split at h
    · cases h
    · rename_i hk2
      rw [if_neg hk2]
      simp only
      omega

theorem able_spec {t : Task} {who : Int} {x : Sight} (h : sAble t who x = true) : 1 ≤ who ∧ 0 ≤ t.phase ∧ t.phase ≤ 5 ∧ MayS x ∧ (t.phase = 1 → sFree x.locks (sK t x) = true) ∧ (2 ≤ t.phase → 0 ≤ sK t x ∧ x.locks[(sK t x).toNat]? = some who) := by
  unfold sAble at h
  split at h
  · cases h
  rename_i h1
  simp only [not_or] at h1
  have hm : MayS x := may_spec.1 (by have := h1.2.2.2; simpa using this)
  refine ⟨by omega, by omega, by omega, hm, fun hp => ?_, fun hp => ?_⟩
  · rw [if_neg (by omega), if_pos hp] at h; exact h
  · rw [if_neg (by omega), if_neg (by omega)] at h
    simpa using h

theorem free_spec {l : List Int} {k : Int} (h : sFree l k = true) : 0 ≤ k ∧ l[k.toNat]? = some 0 := by
  simpa [sFree] using h

theorem may_lock {x : Sight} (h : MayS x) (k : Nat) (v : Int) (hv : 0 ≤ v) : MayS { x with locks := x.locks.set k v } := by
  refine ⟨h.cfg, by simpa using h.llen, h.slen, h.most, h.tk0, h.tk1, fun i w hw => ?_, h.sh⟩
  simp only [List.getElem?_set] at hw
  split at hw
  · split at hw
    · injection hw with hw; omega
    · cases hw
  · exact h.lk i w hw

theorem may_shards {x : Sight} (h : MayS x) (k : Nat) (s : Shard) (hs : k < x.shards.length → sChkS x.config k s = true) : MayS { x with shards := x.shards.set k s } := by
  refine ⟨h.cfg, h.llen, by simpa using h.slen, h.most, h.tk0, h.tk1, h.lk, fun i w hw => ?_⟩
  simp only [List.getElem?_set] at hw
  split at hw
  · rename_i e
    subst e
    split at hw
    · rename_i hk; injection hw with hw; subst hw; exact hs hk
    · cases hw
  · exact h.sh i w hw

theorem may_pot {x : Sight} (h : MayS x) (d : Int) (hd : (sAdj x.pot d).2 = 0) : MayS { x with pot := (sAdj x.pot d).1 } := by
  have h1 := h.most; have h2 := h.tk0; have h3 := h.tk1
  unfold sAdj at hd ⊢
  split at hd
  · simp at hd
  rename_i g1
  split at hd
  · simp at hd
  rename_i g2
  rw [if_neg g1, if_neg g2]
  refine ⟨h.cfg, h.llen, h.slen, h1, ?_, ?_, h.lk, h.sh⟩
  · simp only; omega
  · simp only; omega

theorem len_of {α : Type} {l : List α} {i : Nat} {x : α} (h : l[i]? = some x) : i < l.length := (List.getElem?_eq_some_iff.1 h).1

theorem see_few {o : Op} {t : Task} {x : Sight} {who : Int} (h : TInv o t x) (ha : sAble t who x = true) (hp : t.phase = 2) :
    sAcc (sGetA (sShard t x).accounts t.sender) x.config.per = true ∧ (sGetA (sShard t x).accounts t.sender).sender = t.sender := by
  obtain ⟨_, _, _, hm, _, hk⟩ := able_spec ha
  obtain ⟨hk0, hkl⟩ := hk (by omega)
  have hlen := len_of hkl
  have hs : (sK t x).toNat < x.shards.length := by have := hm.llen; have := hm.slen; omega
  have hc := hm.sh _ _ (List.getElem?_eq_getElem hs)
  have hsn := h.snd (by omega) (by omega)
  have hcf := sCfg_spec.1 hm.cfg
  have e : sShard t x = x.shards[(sK t x).toNat] := by unfold sShard; rw [List.getElem?_eq_getElem hs]; rfl
  rw [e]
  simp only [sChkS, Bool.and_eq_true] at hc
  exact getA_acc hc.2 hsn.1 hsn.2 (by omega)

theorem err_of_changes {c : Config} {a : Acc} {k n : Int} {l : List UInt8} (h : (sLook c a k n l).changes = true) : (sLook c a k n l).result.err = 0 := by
  by_cases he : (sLook c a k n l).result.err = 0
  · exact he
  · obtain ⟨e, hw⟩ := wrong_err he
    rw [hw] at h
    simp [wrong] at h

structure Stp (t : Task) (who : Int) (x : Sight) (r : Task × Sight × List Event × Bool) : Prop where
  cfg : r.2.1.config = x.config
  once : r.2.2.2 = true → t.point = false
  evs : r.2.2.1.length ≠ 0 → r.2.2.2 = true
  pt : r.1.point = (t.point || r.2.2.2)
  res : t.point = true → r.1.result = t.result
  ahead : r.1.point = false → r.2.1.pot = x.pot ∧ r.2.1.shards = x.shards
  locks : ∀ (k : Nat) v w, x.locks[k]? = some v → r.2.1.locks[k]? = some w → w = v ∨ (v = who ∧ w = 0) ∨ (v = 0 ∧ w = who)
  shards : ∀ (k : Nat), r.2.1.shards[k]? ≠ x.shards[k]? → x.locks[k]? = some who
  llen : r.2.1.locks.length = x.locks.length
  slen : r.2.1.shards.length = x.shards.length
  still : sAble t who x = false → r = (t, x, [], false)

theorem stp_same {t u : Task} {who : Int} {x : Sight} (hp : u.point = t.point) (hr : t.point = true → u.result = t.result) (ha : sAble t who x = false → u = t) : Stp t who x (u, x, [], false) :=
  ⟨rfl, by simp, by simp, by simp [hp], hr, fun _ => ⟨rfl, rfl⟩, fun k v w h1 h2 => .inl (by simp only [h1] at h2; injection h2 with h2; exact h2.symm), fun k h => absurd rfl h, rfl, rfl, fun h => by rw [ha h]⟩

theorem stp_end {t u : Task} {who : Int} {x : Sight} (hp : t.point = false) (hu : u.point = true) (ha : sAble t who x = true) : Stp t who x (u, x, [], true) :=
  ⟨rfl, fun _ => hp, by simp, by simp [hp, hu], by simp [hp], fun h => by simp [hu] at h, fun k v w h1 h2 => .inl (by simp only [h1] at h2; injection h2 with h2; exact h2.symm), fun k h => absurd rfl h, rfl, rfl, fun h => by rw [ha] at h; cases h⟩

theorem step_all {o : Op} {t : Task} {who : Int} {x : Sight} (h : TInv o t x) (hw : 1 ≤ who) : TInv o (sStep t who x).1 (sStep t who x).2.1 ∧ Stp t who x (sStep t who x) := by
  unfold sStep
  cases ha : sAble t who x with
  | false => rw [if_pos rfl]; exact ⟨h, stp_same rfl (fun _ => rfl) fun _ => rfl⟩
  | true =>
  rw [if_neg (by simp)]
  obtain ⟨_, hp0, hp5, hm, hfr, hk⟩ := able_spec ha
  have hpt := h.pt
  split
  · rename_i h0
    have hpf : t.point = false := by rw [hpt]; exact decide_eq_false (by omega)
    split
    · rename_i hwh
      refine ⟨⟨h.op, hm, by simp, by simp, by simp [hpf], fun _ _ => whose_range hwh, by simp, h.fewA, h.fewE, h.fewP, h.fewR⟩, stp_same rfl (fun _ => rfl) (by rw [ha]; simp)⟩
    · have hl := sLook_len x.config ⟨-1, 0, []⟩ t.op.kind t.op.nonce (L t.op.data)
      refine ⟨⟨h.op, hm, by simp [sEnd], by simp [sEnd], by simp [sEnd], by simp [sEnd], by simp [sEnd], h.fewA, h.fewE, h.fewP, ?_⟩, stp_end hpf rfl ha⟩
      have := hl.2.2
      simp only [List.length_nil, sEnd] at this ⊢
      omega
  · rename_i h0
    split
    · rename_i h1
      have hpf : t.point = false := by rw [hpt]; exact decide_eq_false (by omega)
      obtain ⟨hk0, hkl⟩ := free_spec (hfr h1)
      refine ⟨⟨h.op, may_lock hm _ _ (by omega), by simp, by simp, by simp [hpf], fun _ _ => h.snd (by omega) (by omega), by simp, h.fewA, h.fewE, h.fewP, h.fewR⟩, ?_⟩
      refine ⟨rfl, by simp, by simp, by simp, fun _ => rfl, fun _ => ⟨rfl, rfl⟩, fun k v w g1 g2 => ?_, fun k g => absurd rfl g, by simp, rfl, by rw [ha]; simp⟩
      simp only [List.getElem?_set] at g2
      split at g2
      · rename_i e
        subst e
        rw [hkl] at g1
        injection g1 with g1
        split at g2
        · injection g2 with g2; exact .inr (.inr ⟨g1.symm, g2.symm⟩)
        · cases g2
      · rw [g1] at g2; injection g2 with g2; exact .inl g2.symm
    · rename_i h1
      obtain ⟨hk0, hkl⟩ := hk (by omega)
      have hkn := len_of hkl
      split
      · rename_i h2
        have hpf : t.point = false := by rw [hpt]; exact decide_eq_false (by omega)
        have hl := sLook_len x.config (sGetA (sShard t x).accounts t.sender) t.op.kind t.op.nonce (L t.op.data)
        obtain ⟨hacc, hsn⟩ := see_few h ha h2
        have hcf := sCfg_spec.1 hm.cfg
        have hfew : (sGetA (sShard t x).accounts t.sender).txs.length ≤ 16 := by have := (sAcc_spec.1 hacc).1; omega
        obtain ⟨l1, l2, l3⟩ := hl
        split
        · rename_i hch
          obtain ⟨g1, g2, g3, g4⟩ := plan_may hacc (err_of_changes hch) hch
          have r1 := sQ_range (sSee t x).after.txs
          have r2 := sQ_range (sGetA (sShard t x).accounts t.sender).txs
          refine ⟨⟨h.op, hm, by simp, by simp, by simp [hpf], fun _ _ => h.snd (by omega) (by omega), fun _ => ⟨g1, g3.trans hsn, ?_, ?_⟩, ?_, ?_, ?_, h.fewR⟩, stp_same rfl (fun _ => rfl) (by rw [ha]; simp)⟩
          · show -1000 ≤ (sSee t x).delta
            unfold sSee at r1 ⊢; rw [g2]; omega
          · show (sSee t x).delta ≤ 1000
            unfold sSee at r1 ⊢; rw [g2]; omega
          · exact Nat.le_trans l1 (by omega)
          · exact Nat.le_trans l2 (by omega)
          · exact Nat.le_trans l3 (by omega)
        · refine ⟨⟨h.op, hm, by simp [sEnd], by simp [sEnd], by simp [sEnd], fun _ _ => h.snd (by omega) (by omega), by simp [sEnd], ?_, ?_, ?_, ?_⟩, stp_end hpf rfl ha⟩
          · exact Nat.le_trans l1 (by omega)
          · exact Nat.le_trans l2 (by omega)
          · exact Nat.le_trans l3 (by omega)
          · exact Nat.le_trans l3 (by omega)
      · rename_i h2
        split
        · rename_i h3
          have hpf : t.point = false := by rw [hpt]; exact decide_eq_false (by omega)
          split
          · rename_i hz
            refine ⟨⟨h.op, may_pot hm _ hz, by simp [sEnd], by simp [sEnd], by simp [sEnd], fun _ _ => h.snd (by omega) (by omega), fun _ => h.plan (.inl h3), h.fewA, h.fewE, h.fewP, h.fewP⟩, ?_⟩
            exact ⟨rfl, fun _ => hpf, fun _ => rfl, by simp [hpf, sEnd], by simp [hpf], by simp [sEnd], fun k v w g1 g2 => .inl (by simp only [g1] at g2; injection g2 with g2; exact g2.symm), fun k g => absurd rfl g, rfl, rfl, by rw [ha]; simp⟩
          · refine ⟨⟨h.op, hm, by simp [sEnd], by simp [sEnd], by simp [sEnd], fun _ _ => h.snd (by omega) (by omega), by simp [sEnd], h.fewA, h.fewE, h.fewP, ?_⟩, stp_end hpf rfl ha⟩
            simp only [sEnd, sFull]
            split
            · simp
            · exact h.fewP
        · rename_i h3
          split
          · rename_i h4
            have hpf : t.point = true := by rw [hpt]; exact decide_eq_true (by omega)
            obtain ⟨g1, g2, _, _⟩ := h.plan (.inr h4)
            have hs : (sK t x).toNat < x.shards.length := by have := hm.llen; have := hm.slen; omega
            have hc := hm.sh _ _ (List.getElem?_eq_getElem hs)
            have e : sShard t x = x.shards[(sK t x).toNat] := by unfold sShard; rw [List.getElem?_eq_getElem hs]; rfl
            have hkk : (((sK t x).toNat : Nat) : Int) = sK t x := by omega
            refine ⟨⟨h.op, may_shards hm _ _ fun _ => ?_, by simp, by simp, by simp [hpf], fun _ _ => h.snd (by omega) (by omega), by simp, h.fewA, h.fewE, h.fewP, h.fewR⟩, ?_⟩
            · rw [e]
              refine chkS_set hc g1 ?_
              rw [g2, hkk]; rfl
            · refine ⟨rfl, by simp, by simp, by simp, fun _ => rfl, by simp [hpf], fun k v w g1 g2 => .inl (by simp only [g1] at g2; injection g2 with g2; exact g2.symm), fun k g => ?_, rfl, by simp, by rw [ha]; simp⟩
              simp only [List.getElem?_set] at g
              by_cases ek : (sK t x).toNat = k
              · rw [← ek]; exact hkl
              · rw [if_neg ek] at g; exact absurd rfl g
          · rename_i h4
            have hpf : t.point = true := by rw [hpt]; exact decide_eq_true (by omega)
            refine ⟨⟨h.op, may_lock hm _ _ (by omega), by simp, by simp, by simp [hpf], by simp, by simp, h.fewA, h.fewE, h.fewP, h.fewR⟩, ?_⟩
            refine ⟨rfl, by simp, by simp, by simp, fun _ => rfl, by simp [hpf], fun k v w g1 g2 => ?_, fun k g => absurd rfl g, by simp, rfl, by rw [ha]; simp⟩
            simp only [List.getElem?_set] at g2
            split at g2
            · rename_i e
              subst e
              rw [hkl] at g1
              injection g1 with g1
              injection g2 with g2
              exact .inr (.inl ⟨g1.symm, g2.symm⟩)
            · rw [g1] at g2; injection g2 with g2; exact .inl g2.symm

end Go.Vm

/- shard.Set, program = document's answer in plain form. -/
set_option linter.unusedVariables false
set_option linter.unusedSimpArgs false
namespace Go.Vm
open Go Go.RowKit

theorem p_Clone_Acc (l : List Acc) (hl : l.length ≤ 1000000) : F_k73 l = some l := by
  simp only [F_k73, pk_k73]
  have h8 : l.length * 40 ≤ 140737488355328 := by omega
  cases l with
  | nil => simp [wboth]
  | cons x l => rw [if_neg (List.cons_ne_nil _ _), if_pos h8, if_neg (List.cons_ne_nil _ _)]

theorem drop_head {α : Type} {l k : List α} {t : α} {i : Nat} (h : l.drop i = t :: k) : l[i]? = some t ∧ l.drop (i + 1) = k ∧ i < l.length := by
  have ht : l[i]? = some t := by
    have := congrArg (·[0]?) h
    simpa using this
  refine ⟨ht, ?_, (List.getElem?_eq_some_iff.1 ht).1⟩
  have := congrArg List.tail h
  simpa using this

theorem ix1 (o0 : Shard) (a : Acc) (d : List Acc) (hd : d.length ≤ 1000000) : ∀ (m : List Acc) (i : Nat), d.drop i = m → i ≤ d.length →
    run (fun s : L_k79_0 => if s.v8 < s.v7 then (if 0 ≤ s.v8 ∧ s.v8 < (s.s_.length : Int) then s.s_[s.v8.toNat]?.bind fun x =>
        if x.sender = s.o1.sender then some (Sum.inr (Sum.inr ({ v4 := s.v8, v7 := s.v7, v8 := s.v8, o0 := s.o0, o1 := s.o1, version := s.version, s_ := s.s_, o4 := s.o4 } : L_k79_0)))
        else some (Sum.inl { v4 := s.v4, v7 := s.v7, v8 := IntKind.i64.wrap (s.v8 + 1), o0 := s.o0, o1 := s.o1, version := s.version, s_ := s.s_, o4 := s.o4 }) else none)
      else some (Sum.inr (Sum.inl ({ v4 := s.v4, v7 := s.v7, v8 := s.v8, o0 := s.o0, o1 := s.o1, version := s.version, s_ := s.s_, o4 := s.o4 } : L_k79_0))))
      { v4 := 0, v7 := (d.length : Int), v8 := (i : Int), o0 := o0, o1 := a, version := 0, s_ := d, o4 := [] } =
    some (match m.findIdx? (fun x => decide (x.sender = a.sender)) with
      | none => Sum.inl { v4 := 0, v7 := (d.length : Int), v8 := (d.length : Int), o0 := o0, o1 := a, version := 0, s_ := d, o4 := [] }
      | some j => Sum.inr { v4 := ((i + j : Nat) : Int), v7 := (d.length : Int), v8 := ((i + j : Nat) : Int), o0 := o0, o1 := a, version := 0, s_ := d, o4 := [] })
  | [], i, hm, hi => by
    have h := List.drop_eq_nil_iff.1 hm
    obtain rfl : i = d.length := by omega
    rw [run_eq]
    simp
  | t :: m, i, hm, hi => by
    obtain ⟨ht, hm', hil⟩ := drop_head hm
    have h1 : (i : Int) < (d.length : Int) := by omega
    have h2 : (0 : Int) ≤ (i : Int) ∧ (i : Int) < (d.length : Int) := by omega
    have h3 : (i : Int).toNat = i := by omega
    have h4 : IntKind.i64.wrap ((i : Int) + 1) = ((i + 1 : Nat) : Int) := wrap_add1 i (by omega)
    rw [run_eq]
    simp only [h1, h2, h3, h4, ht, and_self, if_true, Option.bind_some]
    by_cases hp : t.sender = a.sender
    · simp only [hp, if_true, List.findIdx?_cons, decide_true, Nat.add_zero]
    · simp only [hp, if_false]
      rw [ix1 o0 a d hd m (i + 1) hm' (by omega)]
      simp only [List.findIdx?_cons, hp, decide_false, Bool.false_eq_true, if_false]
      cases m.findIdx? (fun x => decide (x.sender = a.sender)) with
      | none => rfl
      | some j => simp only [Option.map_some]; rw [show i + 1 + j = i + (j + 1) from by omega]

theorem ix2 (o0 : Shard) (a : Acc) (d : List Acc) (hd : d.length ≤ 1000000) : ∀ (m : List Acc) (i : Nat), d.drop i = m → i ≤ d.length →
    run (fun s : L_k7a_0 => if s.v8 < s.v7 then (if 0 ≤ s.v8 ∧ s.v8 < (s.s_.length : Int) then s.s_[s.v8.toNat]?.bind fun x =>
        if s.o1.sender < x.sender then some (Sum.inr (Sum.inr ({ v4 := s.v8, v7 := s.v7, v8 := s.v8, o0 := s.o0, o1 := s.o1, version := s.version, o4 := s.o4, s_ := s.s_ } : L_k7a_0)))
        else some (Sum.inl { v4 := s.v4, v7 := s.v7, v8 := IntKind.i64.wrap (s.v8 + 1), o0 := s.o0, o1 := s.o1, version := s.version, o4 := s.o4, s_ := s.s_ }) else none)
      else some (Sum.inr (Sum.inl ({ v4 := s.v4, v7 := s.v7, v8 := s.v8, o0 := s.o0, o1 := s.o1, version := s.version, o4 := s.o4, s_ := s.s_ } : L_k7a_0))))
      { v4 := 0, v7 := (d.length : Int), v8 := (i : Int), o0 := o0, o1 := a, version := 0, o4 := [], s_ := d } =
    some (match m.findIdx? (fun x => decide (a.sender < x.sender)) with
      | none => Sum.inl { v4 := 0, v7 := (d.length : Int), v8 := (d.length : Int), o0 := o0, o1 := a, version := 0, o4 := [], s_ := d }
      | some j => Sum.inr { v4 := ((i + j : Nat) : Int), v7 := (d.length : Int), v8 := ((i + j : Nat) : Int), o0 := o0, o1 := a, version := 0, o4 := [], s_ := d })
  | [], i, hm, hi => by
    have h := List.drop_eq_nil_iff.1 hm
    obtain rfl : i = d.length := by omega
    rw [run_eq]
    simp
  | t :: m, i, hm, hi => by
    obtain ⟨ht, hm', hil⟩ := drop_head hm
    have h1 : (i : Int) < (d.length : Int) := by omega
    have h2 : (0 : Int) ≤ (i : Int) ∧ (i : Int) < (d.length : Int) := by omega
    have h3 : (i : Int).toNat = i := by omega
    have h4 : IntKind.i64.wrap ((i : Int) + 1) = ((i + 1 : Nat) : Int) := wrap_add1 i (by omega)
    rw [run_eq]
    simp only [h1, h2, h3, h4, ht, and_self, if_true, Option.bind_some]
    by_cases hp : a.sender < t.sender
    · simp only [hp, if_true, List.findIdx?_cons, decide_true, Nat.add_zero]
    · simp only [hp, if_false]
      rw [ix2 o0 a d hd m (i + 1) hm' (by omega)]
      simp only [List.findIdx?_cons, hp, decide_false, Bool.false_eq_true, if_false]
      cases m.findIdx? (fun x => decide (a.sender < x.sender)) with
      | none => rfl
      | some j => simp only [Option.map_some]; rw [show i + 1 + j = i + (j + 1) from by omega]

theorem ins_at (a : Acc) : ∀ (d : List Acc), (d.findIdx? (fun x => decide (a.sender < x.sender)) = none → sInsA a d = d ++ [a]) ∧ (∀ i, d.findIdx? (fun x => decide (a.sender < x.sender)) = some i → i < d.length ∧ sInsA a d = d.take i ++ a :: d.drop i)
  | [] => ⟨fun _ => rfl, fun i h => by simp at h⟩
  | x :: d => by
    obtain ⟨h1, h2⟩ := ins_at a d
    rw [List.findIdx?_cons]
    by_cases hp : a.sender < x.sender
    · refine ⟨fun h => by simp [hp] at h, fun i h => ?_⟩
      simp [hp] at h
      subst h
      simp [sInsA, hp]
    · refine ⟨fun h => ?_, fun i h => ?_⟩
      · simp [hp] at h
        simp only [sInsA, hp, if_false, List.cons_append]
        rw [h1 (by simpa using h)]
      · simp only [hp, decide_false, Bool.false_eq_true, if_false, Option.map_eq_some_iff] at h
        obtain ⟨j, hj, rfl⟩ := h
        obtain ⟨g1, g2⟩ := h2 j hj
        refine ⟨by simp; omega, ?_⟩
        simp only [sInsA, hp, if_false, List.take_succ_cons, List.drop_succ_cons, List.cons_append]
        rw [g2]

theorem del_acc (o0 : Shard) (o1 : Acc) (len : Nat) (hlen : len ≤ 1000000) : ∀ (m : List Acc) (j i : Nat) (s : List Acc), s.length = len → s.drop j = m → i < j → j ≤ len →
    ∃ i' s', i' ≤ len ∧ s'.length = len ∧ s'.take i' = s.take i ++ sDelA m o1.sender ∧
      run (fun s : L_k77_0 => if s.j < (s.s_.length : Int) then (if 0 ≤ s.j ∧ s.j < (s.s_.length : Int) then s.s_[s.j.toNat]?.bind fun a =>
          if a.sender = s.o1.sender then some (Sum.inl { i := s.i, j := IntKind.i64.wrap (s.j + 1), o0 := s.o0, o1 := s.o1, version := s.version, s_ := s.s_, v4 := s.v4 })
          else if 0 ≤ s.i ∧ s.i < (s.s_.length : Int) then s.s_[s.i.toNat]?.bind fun a_2 =>
            if s.i.toNat < s.s_.length then some (Sum.inl { i := IntKind.i64.wrap (s.i + 1), j := IntKind.i64.wrap (s.j + 1), o0 := s.o0, o1 := s.o1, version := s.version, s_ := s.s_.set s.i.toNat a, v4 := s.v4 })
            else some (Sum.inl { i := IntKind.i64.wrap (s.i + 1), j := IntKind.i64.wrap (s.j + 1), o0 := s.o0, o1 := s.o1, version := s.version, s_ := s.s_, v4 := s.v4 })
          else none
        else none) else some (Sum.inr (Sum.inl { i := s.i, j := s.j, o0 := s.o0, o1 := s.o1, version := s.version, s_ := s.s_, v4 := s.v4 } : L_k77_0 ⊕ L_k77_0)))
        { i := (i : Int), j := (j : Int), o0 := o0, o1 := o1, version := 0, s_ := s, v4 := [] } = some (.inl { i := (i' : Int), j := (len : Int), o0 := o0, o1 := o1, version := 0, s_ := s', v4 := [] })
  | [], j, i, s, hs, hd, hij, hj => by
    have h := List.drop_eq_nil_iff.1 hd
    obtain rfl : j = len := by omega
    refine ⟨i, s, by omega, hs, by simp [sDelA], ?_⟩
    rw [run_eq]
    have h1 : ¬ ((j : Int) < (s.length : Int)) := by omega
    simp only [h1, if_false]
  | t :: m, j, i, s, hs, hd, hij, hj => by
    obtain ⟨ht, hd', hjl⟩ := drop_head hd
    have h1 : (j : Int) < (s.length : Int) := by omega
    have h2 : (0 : Int) ≤ (j : Int) ∧ (j : Int) < (s.length : Int) := by omega
    have h3 : (j : Int).toNat = j := by omega
    have h4 : IntKind.i64.wrap ((j : Int) + 1) = ((j + 1 : Nat) : Int) := wrap_add1 j (by omega)
    by_cases hn : t.sender = o1.sender
    · obtain ⟨i', s', g1, g2, g3, g4⟩ := del_acc o0 o1 len hlen m (j + 1) i s hs hd' (by omega) (by omega)
      refine ⟨i', s', g1, g2, by rw [g3]; simp [sDelA, hn], ?_⟩
      rw [run_eq]
      simp only [h1, h2, h3, h4, ht, hn, and_self, if_true, Option.bind_some]
      exact g4
    · have hil : i < s.length := by omega
      obtain ⟨i', s', g1, g2, g3, g4⟩ := del_acc o0 o1 len hlen m (j + 1) (i + 1) (s.set i t) (by simpa using hs) (by rw [List.drop_set_of_lt (by omega)]; exact hd') (by omega) (by omega)
      refine ⟨i', s', g1, g2, ?_, ?_⟩
      · rw [g3]
        have : (s.set i t).take (i + 1) = s.take i ++ [t] := by
          rw [List.take_add_one, List.getElem?_set_self hil, List.take_set_of_le (by omega)]
          rfl
        rw [this]
        simp [sDelA, hn]
      · rw [run_eq]
        have h5 : (0 : Int) ≤ (i : Int) ∧ (i : Int) < (s.length : Int) := by omega
        have h6 : (i : Int).toNat = i := by omega
        have h7 : IntKind.i64.wrap ((i : Int) + 1) = ((i + 1 : Nat) : Int) := wrap_add1 i (by omega)
        simp only [h1, h2, h3, h4, ht, hn, and_self, if_true, if_false, Option.bind_some, h5, h6, h7, hil, List.getElem?_eq_getElem hil]
        exact g4

def sVer (v : Int) : Int := if v < 0 ∨ 1099511627776 ≤ v then 0 else v + 1
theorem ver_ite {v : Int} {α : Type} (f : Int → Option α) : (if v < 0 then f 0 else if 1099511627776 ≤ v then f 0 else f (IntKind.i64.wrap (v + 1))) = f (sVer v) := by
  unfold sVer
  by_cases h1 : v < 0
  · rw [if_pos h1, if_pos (.inl h1)]
  · rw [if_neg h1]
    by_cases h2 : 1099511627776 ≤ v
    · rw [if_pos h2, if_pos (.inr h2)]
    · rw [if_neg h2, if_neg (by omega), wrap64 (by omega) (by omega)]

theorem obind {α β : Type} {x : Option α} {r : α} {g : α → Option β} {G : Option β} (h : x = some r) (hg : g r = G) : x.bind g = G := by rw [h]; exact hg

theorem find_none {α : Type} {p : α → Bool} {l : List α} (h : l.findIdx? p = none) : l.filter (fun x => !p x) = l := by
  rw [List.findIdx?_eq_none_iff] at h
  exact List.filter_eq_self.2 fun x hx => by simp [h x hx]

theorem p_shard_Set (s : Shard) (a : Acc) (hl : s.accounts.length ≤ 1000000) : F_k6f s a = some (sSet s a) := by
  simp only [F_k6f, pk_k6f, p_Clone_Acc _ hl, Option.bind_some]
  have hx := ix1 s a s.accounts hl s.accounts 0 rfl (by omega)
  cases hf : s.accounts.findIdx? (fun x => decide (x.sender = a.sender)) with
  | none =>
    rw [hf] at hx
    refine obind hx ?_
    have hdl : sDelA s.accounts a.sender = s.accounts := find_none hf
    simp only [selim, Option.bind_some, if_true, p_shard_empty]
    cases he : emp a with
    | true =>
      rw [show decide (a.base = 0 ∧ a.txs = []) = true from he]
      simp only [Bool.true_eq_false, if_false]
      refine (ver_ite (fun v => some (⟨s.accounts, v⟩ : Shard))).trans ?_
      simp only [sSet, sSetL, he, if_true, hdl]; rfl
    | false =>
      rw [show decide (a.base = 0 ∧ a.txs = []) = false from he]
      simp only [if_true]
      have hy := ix2 s a s.accounts hl s.accounts 0 rfl (by omega)
      obtain ⟨i1, i2⟩ := ins_at a s.accounts
      have hr : (s.accounts.length + 1) * 40 ≤ 140737488355328 := by omega
      cases hg : s.accounts.findIdx? (fun x => decide (a.sender < x.sender)) with
      | none =>
        rw [hg] at hy
        refine obind hy ?_
        have hm : min s.accounts.length s.accounts.length + (s.accounts.length - s.accounts.length + 1) = s.accounts.length + 1 := by omega
        simp only [selim, Option.bind_some, true_and, hr, if_true, hm]
        refine (ver_ite (fun v => some (⟨s.accounts.take s.accounts.length ++ a :: s.accounts.drop s.accounts.length, v⟩ : Shard))).trans ?_
        simp only [sSet, sSetL, he, Bool.false_eq_true, if_false, hdl, i1 hg, List.take_length, List.drop_length]; rfl
      | some i =>
        obtain ⟨g1, g2⟩ := i2 i hg
        rw [hg] at hy
        refine obind hy ?_
        have hz : ¬ ((0 + i : Nat) : Int) < 0 := by omega
        have hc : (0 : Int) ≤ ((0 + i : Nat) : Int) ∧ ((0 + i : Nat) : Int) ≤ (s.accounts.length : Int) := by omega
        have hn : (((0 + i : Nat) : Int)).toNat = i := by omega
        have hm : min i s.accounts.length + (s.accounts.length - i + 1) = s.accounts.length + 1 := by omega
        simp only [selim, Option.bind_some, true_and, hr, hz, hc, and_self, hn, if_true, if_false, hm]
        refine (ver_ite (fun v => some (⟨s.accounts.take i ++ a :: s.accounts.drop i, v⟩ : Shard))).trans ?_
        simp only [sSet, sSetL, he, Bool.false_eq_true, if_false, hdl, g2]; rfl
  | some i =>
    rw [hf] at hx
    refine obind hx ?_
    obtain ⟨hi, hp, hb⟩ := List.findIdx?_eq_some_iff_getElem.1 hf
    have h1 : ¬ (((0 + i : Nat) : Int) = -1) := by omega
    have h2 : IntKind.i64.wrap (((0 + i : Nat) : Int) + 1) = ((i + 1 : Nat) : Int) := by
      rw [Nat.zero_add]; exact wrap_add1 i (by omega)
    have h3 : ((0 + i : Nat) : Int) = (i : Int) := by omega
    obtain ⟨i', s', g1, g2, g3, g4⟩ := del_acc s a s.accounts.length hl (s.accounts.drop (i + 1)) (i + 1) i s.accounts rfl rfl (by omega) (by omega)
    simp only [selim, Option.bind_some, h1, if_false, List.length_nil, h2, and_self, if_true]
    rw [h3]
    refine obind g4 ?_
    have hdl : sDelA s.accounts a.sender = s'.take i' := by
      rw [g3]
      have hsplit : s.accounts = s.accounts.take i ++ s.accounts[i] :: s.accounts.drop (i + 1) := by
        conv => lhs; rw [← List.take_append_drop i s.accounts]
        congr 1
        exact List.drop_eq_getElem_cons hi
      conv => lhs; rw [hsplit]
      unfold sDelA
      rw [List.filter_append, List.filter_cons_of_neg (by simpa using hp)]
      congr 1
      refine List.filter_eq_self.2 fun x hx => ?_
      obtain ⟨j, hj, rfl⟩ := List.getElem_of_mem hx
      have hji : j < i := by simp at hj; omega
      have := hb j hji
      simp only [List.getElem_take]
      simpa using this
    have c1 : (0 : Int) ≤ (i' : Int) ∧ (i' : Int) ≤ (s'.length : Int) := by omega
    have c2 : (i' : Int) ≤ (s'.length : Int) := by omega
    have c3 : (i' : Int).toNat = i' := by omega
    have c4 : min i' s'.length + (s'.length - i') = s'.length := by omega
    have c5 : i' ≤ ((s'.map Acc.c).take i').length := by simp; omega
    have c6 : max (i' : Int) 0 = (i' : Int) := by omega
    have hlen : (s'.take i').length = i' := by simp; omega
    have c7 : min i' s'.length = i' := by omega
    have c8 : i' + (s'.length - i') = s'.length := by omega
    have dl : ∀ r : List (List DV), decL dAcc (List.take i' (List.take i' (List.map Acc.c s') ++ r)) = some (s'.take i') := by
      intro r
      rw [List.take_append_of_le_length c5, List.take_take, Nat.min_self, Acc.dtake]
    simp only [selim, Option.bind_some, c1, c2, c3, c7, c8, c6, and_self, if_true, p_shard_empty, dl]
    cases he : emp a with
    | true =>
      rw [show decide (a.base = 0 ∧ a.txs = []) = true from he]
      simp only [Bool.true_eq_false, if_false]
      refine (ver_ite (fun v => some (⟨s'.take i', v⟩ : Shard))).trans ?_
      simp only [sSet, sSetL, he, if_true, hdl]; rfl
    | false =>
      rw [show decide (a.base = 0 ∧ a.txs = []) = false from he]
      simp only [if_true, hlen]
      generalize hD : s'.take i' = D at *
      have hDl : D.length ≤ 1000000 := by omega
      rw [← hlen]
      have hy := ix2 s a D hDl D 0 rfl (by omega)
      obtain ⟨i1, i2⟩ := ins_at a D
      have hr : (D.length + 1) * 40 ≤ 140737488355328 := by omega
      have hz0 : (0 : Int) ≤ (D.length : Int) := by omega
      have hzn : ((D.length : Nat) : Int).toNat = D.length := by omega
      cases hg : D.findIdx? (fun x => decide (a.sender < x.sender)) with
      | none =>
        rw [hg] at hy
        refine obind hy ?_
        have hm : min D.length D.length + (D.length - D.length + 1) = D.length + 1 := by omega
        simp only [selim, Option.bind_some, true_and, hr, hz0, hzn, and_self, if_true, hm]
        refine (ver_ite (fun v => some (⟨D.take D.length ++ a :: D.drop D.length, v⟩ : Shard))).trans ?_
        simp only [sSet, sSetL, he, Bool.false_eq_true, if_false, hdl, i1 hg, List.take_length, List.drop_length]; rfl
      | some i =>
        obtain ⟨g1, g2⟩ := i2 i hg
        rw [hg] at hy
        refine obind hy ?_
        have hz : ¬ ((0 + i : Nat) : Int) < 0 := by omega
        have hc : (0 : Int) ≤ ((0 + i : Nat) : Int) ∧ ((0 + i : Nat) : Int) ≤ (D.length : Int) := by omega
        have hn : (((0 + i : Nat) : Int)).toNat = i := by omega
        have hm : min i D.length + (D.length - i + 1) = D.length + 1 := by omega
        simp only [selim, Option.bind_some, true_and, hr, hz, hc, and_self, hn, if_true, if_false, hm]
        refine (ver_ite (fun v => some (⟨D.take i ++ a :: D.drop i, v⟩ : Shard))).trans ?_
        simp only [sSet, sSetL, he, Bool.false_eq_true, if_false, hdl, g2]; rfl

end Go.Vm

/- Layer 16, program and document: what may be, who may go on, a step. -/
set_option linter.unusedVariables false
set_option linter.unusedSimpArgs false
namespace Go.Vm
open Go Go.RowKit

theorem all_run {α σ : Type} {step : σ → Option (σ ⊕ (σ ⊕ Bool))} {s0 : σ} {f : σ → Option Bool} {q : Bool} (L : List α) (st : Nat → σ) (p : Nat → α → Bool) (h0 : s0 = st 0)
    (hs : ∀ i a, L[i]? = some a → step (st i) = some (if p i a = true then .inl (st (i + 1)) else .inr (.inr false)))
    (he : step (st L.length) = some (.inr (.inl (st L.length)))) (hf : f (st L.length) = some q) :
    (run step s0).bind (selim f fun n => some n) = some (allI p 0 L && q) := by
  refine run_bind (γ := Unit) L (fun i _ => st i) (fun i _ a => some (if p i a = true then .inl () else .inr (.inr false))) (fun _ => some (.inl (st L.length))) () h0 ?_ ?_ ?_
  · intro i c a ha
    rw [hs i a ha]
    by_cases h : p i a = true <;> simp [h]
  · intro c; rw [he]; rfl
  · have key : ∀ (k : List α) (i : Nat), (loopL (γ := Unit) (fun i _ a => some (if p i a = true then .inl () else .inr (.inr false))) (fun _ => some (.inl (st L.length))) i () k).bind (selim f fun n => some n) = some (allI p i k && q) := by
      intro k
      induction k with
      | nil => intro i; simp [loopL, selim, allI, hf]
      | cons a k ih =>
        intro i
        unfold loopL
        by_cases h : p i a = true
        · simp only [h, if_true, allI, Bool.true_and]; exact ih (i + 1)
        · simp [h, allI, selim]
    exact key L 0

def ShS (s : Shard) : Prop := s.accounts.length ≤ 1048576 ∧ ∀ a ∈ s.accounts, a.txs.length ≤ 1048576
def ShX (x : Sight) : Prop := x.locks.length ≤ 1048576 ∧ x.shards.length ≤ 1048576 ∧ ∀ s ∈ x.shards, ShS s
theorem sh_of {α : Type} {l : List α} (h : l.length ≤ 1048576) : Short l := by simp only [Short]; omega

theorem may_sh {x : Sight} (h : MayS x) : ShX x := by
  have hc := sCfg_spec.1 h.cfg
  have h1 := h.llen; have h2 := h.slen
  refine ⟨by omega, by omega, fun s hs => ?_⟩
  obtain ⟨i, hi⟩ := List.getElem?_of_mem hs
  have hk := h.sh i s hi
  simp only [sChkS, Bool.and_eq_true] at hk
  have := accs_len hk.2 (by omega)
  refine ⟨by omega, fun a ha => ?_⟩
  have := (sAcc_spec.1 (accs_mem hk.2 a ha).1).1
  omega

theorem accs_loop (c : Config) (k : Int) (o0 : Shard) (L : List Acc) : ∀ (l : List Acc) (i : Nat) (last : Int),
    (loopL (β := L_k6d_0 ⊕ Bool) (fun _ (last : Int) (a : Acc) => some (if (sAcc a c.per && !emp a && decide (last < a.sender) && decide (sShd a.sender c.shards = k)) = true then .inl a.sender else .inr (.inr false))) (fun last => some (.inl ⟨k, last, L, L.length, L.length, o0, c⟩)) i last l).bind (selim (fun s => some true) fun n => some n) = some (sAccs c.per c.shards k last l)
  | [], i, last => rfl
  | a :: l, i, last => by
    unfold loopL
    by_cases h : (sAcc a c.per && !emp a && decide (last < a.sender) && decide (sShd a.sender c.shards = k)) = true
    · simp only [h, if_true, sAccs, Bool.true_and]; exact accs_loop c k o0 L l (i + 1) a.sender
    · simp [h, sAccs, selim]

theorem p_shard_Check (s : Shard) (k : Int) (c : Config) (h : ShS s) : F_k6d s k c = some (sChkS c k s) := by
  simp only [F_k6d, pk_k6d]
  by_cases h1 : s.version < 0
  · rw [if_pos h1]; unfold sChkS; rw [decide_eq_false (by omega)]; rfl
  by_cases h2 : 1099511627776 < s.version
  · rw [if_neg h1, if_pos h2]; unfold sChkS; rw [decide_eq_false (by omega)]; rfl
  rw [if_neg h1, if_neg h2]
  unfold sChkS
  rw [decide_eq_true (by omega), Bool.true_and]
  refine run_bind (γ := Int) s.accounts (fun i last => ⟨k, last, s.accounts, s.accounts.length, i, s, c⟩) (fun _ last a => some (if (sAcc a c.per && !emp a && decide (last < a.sender) && decide (sShd a.sender c.shards = k)) = true then .inl a.sender else .inr (.inr false))) (fun last => some (.inl ⟨k, last, s.accounts, s.accounts.length, s.accounts.length, s, c⟩)) (-1) rfl ?_ ?_ ?_
  · intro i last a ha
    obtain ⟨h1, h2, h3, h4⟩ := at_ ha (sh_of h.1)
    have hm := List.mem_of_getElem? ha
    simp only [h1, h2, h3, h4, ha, if_true, Option.bind_some, p_queue_Check a c.per (sh_of (h.2 a hm)), p_shard_empty, p_fnv_Shard]
    rw [show decide (a.base = 0 ∧ a.txs = []) = emp a from rfl]
    by_cases g1 : sAcc a c.per = true
    · by_cases g2 : emp a = true
      · simp [g1, g2]
      · by_cases g3 : last < a.sender
        · by_cases g4 : sShd a.sender c.shards = k
          · have g5 : ¬ a.sender ≤ last := by omega
            simp [g1, g2, g3, g4, g5]
          · have g5 : ¬ a.sender ≤ last := by omega
            simp [g1, g2, g3, g4, g5]
        · have g5 : a.sender ≤ last := by omega
          simp [g1, g2, g3, g5]
    · simp [g1]
  · intro last; simp
  · exact accs_loop c k s s.accounts s.accounts 0 (-1)

theorem racc_loop (c : Config) (k : Int) (s : Shard) : ∀ (l : List Acc) (i : Nat), s.accounts.drop i = l → ∀ last, (i = 0 → last = -1) → (0 < i → ∃ p, s.accounts[i - 1]? = some p ∧ last = p.sender) → -1 ≤ last →
    (loopL (γ := Unit) (β := L_k56_0 ⊕ Bool) (fun i _ (a : Acc) => if (sAcc a c.per && !emp a && decide (sShd a.sender c.shards = k)) = true then (if 0 < i then (match s.accounts[i - 1]? with | some p => if a.sender ≤ p.sender then some (.inr (.inr false)) else some (.inl ()) | none => none) else some (.inl ())) else some (.inr (.inr false))) (fun _ => some (.inl ⟨k, s.accounts.length, s, c⟩)) i () l).bind (selim (fun s => some true) fun n => some n) = some (sAccs c.per c.shards k last l)
  | [], i, hd, last, h0, h1, hl => rfl
  | a :: l, i, hd, last, h0, h1, hl => by
    obtain ⟨ht, hd', hil⟩ := drop_head hd
    unfold loopL
    by_cases h : (sAcc a c.per && !emp a && decide (sShd a.sender c.shards = k)) = true
    · have hs := h
      simp only [Bool.and_eq_true, decide_eq_true_eq] at hs
      have hb := (sAcc_spec.1 hs.1.1).1
      have ih := racc_loop c k s l (i + 1) hd' a.sender (fun h => by omega) (fun _ => ⟨a, by simpa using ht, rfl⟩) (by omega)
      have hcond : ∀ b : Bool, (sAcc a c.per && !emp a && b && decide (sShd a.sender c.shards = k)) = b := by
        intro b; simp [hs.1.1, hs.1.2, hs.2]
      simp only [h, if_true, sAccs, hcond]
      by_cases hi0 : i = 0
      · have e := h0 hi0
        have g : last < a.sender := by omega
        simp only [show ¬ 0 < i from by omega, if_false, g, decide_true, Bool.true_and]
        exact ih
      · obtain ⟨p, hp, he⟩ := h1 (by omega)
        simp only [show 0 < i from by omega, if_true, hp]
        by_cases g : a.sender ≤ p.sender
        · have g2 : ¬ last < a.sender := by omega
          simp [g, g2, selim]
        · have g2 : last < a.sender := by omega
          simp only [g, if_false, g2, decide_true, Bool.true_and]
          exact ih
    · have hf : (sAcc a c.per && !emp a && decide (last < a.sender) && decide (sShd a.sender c.shards = k)) = false := by
        simp only [Bool.and_eq_true, not_and] at h
        cases h1 : sAcc a c.per <;> cases h2 : emp a <;> simp_all
      simp [h, sAccs, hf, selim]

theorem p_r11_Check (s : Shard) (k : Int) (c : Config) (h : ShS s) : F_k56 s k c = some (sChkS c k s) := by
  simp only [F_k56, pk_k56]
  by_cases h1 : s.version < 0
  · rw [if_pos h1]; unfold sChkS; rw [decide_eq_false (by omega)]; rfl
  by_cases h2 : 1099511627776 < s.version
  · rw [if_neg h1, if_pos h2]; unfold sChkS; rw [decide_eq_false (by omega)]; rfl
  rw [if_neg h1, if_neg h2]
  unfold sChkS
  rw [decide_eq_true (by omega), Bool.true_and]
  refine run_bind (γ := Unit) s.accounts (fun i _ => ⟨k, i, s, c⟩) (fun i _ (a : Acc) => if (sAcc a c.per && !emp a && decide (sShd a.sender c.shards = k)) = true then (if 0 < i then (match s.accounts[i - 1]? with | some p => if a.sender ≤ p.sender then some (.inr (.inr false)) else some (.inl ()) | none => none) else some (.inl ())) else some (.inr (.inr false))) (fun _ => some (.inl ⟨k, s.accounts.length, s, c⟩)) () rfl ?_ ?_ ?_
  · intro i _ a ha
    obtain ⟨h1, h2, h3, h4⟩ := at_ ha (sh_of h.1)
    have hm := List.mem_of_getElem? ha
    have hil := (List.getElem?_eq_some_iff.1 ha).1
    simp only [h1, h2, h3, h4, ha, if_true, Option.bind_some, p_r05_Check a c.per (sh_of (h.2 a hm)), p_r11_empty, p_r02_Shard]
    rw [show decide (a.base = 0 ∧ a.txs = []) = emp a from rfl]
    by_cases g1 : sAcc a c.per = true
    · by_cases g2 : emp a = true
      · simp [g1, g2]
      · by_cases g4 : sShd a.sender c.shards = k
        · by_cases hi0 : i = 0
          · subst hi0
            simp [g1, g2, g4]
          · have e1 : IntKind.i64.wrap ((i : Int) - 1) = ((i - 1 : Nat) : Int) := by
              have := h.1
              rw [wrap64 (by omega) (by omega)]; omega
            have e2 : (0 : Int) < (i : Int) := by omega
            have e3 : 0 < i := by omega
            have e4 : i - 1 < s.accounts.length := by omega
            have e5 : s.accounts[i - 1]? = some s.accounts[i - 1] := List.getElem?_eq_getElem e4
            have e6 : (0 : Int) ≤ ((i - 1 : Nat) : Int) := by omega
            have e7 : ((i - 1 : Nat) : Int).toNat = i - 1 := by omega
            simp only [g1, g2, g4, e1, e2, e3, e5, e6, e7, Bool.true_eq_false, if_false, if_true, Option.bind_some, Bool.not_true, Bool.not_false, Bool.and_true, Bool.true_and, decide_true]
            by_cases g : a.sender ≤ s.accounts[i - 1].sender <;> simp [g, g2]
        · simp [g1, g2, g4]
    · simp [g1]
  · intro _; simp
  · exact racc_loop c k s s.accounts 0 rfl (-1) (fun _ => rfl) (fun h => by omega) (by omega)

theorem p_task_May (x : Sight) (h : ShX x) : F_k83 x = some (sMay x) := by
  simp only [F_k83, pk_k83, p_pool_Config, Option.bind_some, sMay]
  cases hc : sCfg x.config with
  | false => simp
  | true =>
  by_cases h1 : (x.locks.length : Int) = x.config.shards
  case neg => simp [h1]
  by_cases h2 : (x.shards.length : Int) = x.config.shards
  case neg => simp [h2]
  by_cases h3 : x.pot.most = x.config.hard
  case neg => simp [h3]
  by_cases h4 : x.pot.taken < 0
  case pos => simp [h4, Int.not_le.2 h4]
  by_cases h5 : x.config.hard < x.pot.taken
  case pos => simp [h5, Int.not_le.2 h5]
  rw [if_neg (by simp), if_pos h1, if_pos h2, if_pos h3, if_neg h4, if_neg h5, decide_eq_true ⟨h1, h2, h3, by omega, by omega⟩]
  rw [Bool.true_and, Bool.true_and]
  refine Eq.trans (b := some (allI (fun i s => decide (0 ≤ (x.locks[i]?).getD 0) && sChkS x.config i s) 0 x.shards && true)) ?_ (by rw [Bool.and_true])
  refine all_run (q := true) x.shards (fun i => (⟨x.shards, x.shards.length, i, x, x.config⟩ : L_k83_0)) (fun i s => decide (0 ≤ (x.locks[i]?).getD 0) && sChkS x.config i s) rfl ?_ ?_ rfl
  · intro i s hi
    obtain ⟨g1, g2, g3, g4⟩ := at_ hi (sh_of h.2.1)
    have hil := (List.getElem?_eq_some_iff.1 hi).1
    have hl : i < x.locks.length := by omega
    have hm := List.mem_of_getElem? hi
    simp only [g1, g2, g3, g4, hi, List.getElem?_eq_getElem hl, if_true, Option.bind_some, p_shard_Check s i x.config (h.2.2 s hm), Option.getD_some]
    by_cases e1 : x.locks[i] < 0
    · simp [e1, Int.not_le.2 e1]; try rfl
    · have e2 : 0 ≤ x.locks[i] := by omega
      cases e3 : sChkS x.config i s <;> (simp [e1, e2, e3]; try rfl)
  · simp; try rfl

theorem p_r16_May (x : Sight) (h : ShX x) : F_k66 x = some (sMay x) := by
  simp only [F_k66, pk_k66, p_r13_Config, Option.bind_some, sMay]
  cases hc : sCfg x.config with
  | false => simp
  | true =>
  by_cases h1 : (x.locks.length : Int) = x.config.shards
  case neg => simp [h1]
  by_cases h2 : (x.shards.length : Int) = x.config.shards
  case neg => simp [h2]
  by_cases h3 : x.pot.most = x.config.hard
  case neg => simp [h3]
  by_cases h4 : x.pot.taken < 0
  case pos => simp [h4, Int.not_le.2 h4]
  by_cases h5 : x.config.hard < x.pot.taken
  case pos => simp [h5, Int.not_le.2 h5]
  rw [if_neg (by simp), if_pos h1, if_pos h2, if_pos h3, if_neg h4, if_neg h5, decide_eq_true ⟨h1, h2, h3, by omega, by omega⟩]
  rw [Bool.true_and, Bool.true_and]
  refine Eq.trans (b := some (allI (fun i s => decide (0 ≤ (x.locks[i]?).getD 0) && sChkS x.config i s) 0 x.shards && true)) ?_ (by rw [Bool.and_true])
  refine all_run (q := true) x.shards (fun i => (⟨i, x, x.config⟩ : L_k66_0)) (fun i s => decide (0 ≤ (x.locks[i]?).getD 0) && sChkS x.config i s) rfl ?_ ?_ rfl
  · intro i s hi
    obtain ⟨g1, g2, g3, g4⟩ := at_ hi (sh_of h.2.1)
    rw [h2] at g1
    have hil := (List.getElem?_eq_some_iff.1 hi).1
    have hl : i < x.locks.length := by omega
    have hm := List.mem_of_getElem? hi
    simp only [g1, g2, g3, g4, hi, List.getElem?_eq_getElem hl, if_true, Option.bind_some, p_r11_Check s i x.config (h.2.2 s hm), Option.getD_some]
    by_cases e1 : x.locks[i] < 0
    · simp [e1, Int.not_le.2 e1]; try rfl
    · have e2 : 0 ≤ x.locks[i] := by omega
      cases e3 : sChkS x.config i s <;> (simp [e1, e2, e3]; try rfl)
  · simp [h2]; try rfl

theorem p_task_shard (t : Task) (x : Sight) : F_k8d t x = some (sK t x) := by
  simp only [F_k8d, pk_k8d, p_fnv_Shard]; rfl

theorem p_task_Able (t : Task) (who : Int) (x : Sight) (h : ShX x) : F_k82 t who x = some (sAble t who x) := by
  simp only [F_k82, pk_k82, p_task_May x h, p_task_shard, Option.bind_some, sAble, p_lock_Free]
  by_cases h1 : who < 1
  · rw [if_pos h1, if_pos (.inl h1)]
  by_cases h2 : t.phase < 0
  · rw [if_neg h1, if_pos h2, if_pos (.inr (.inl h2))]
  by_cases h3 : 5 < t.phase
  · rw [if_neg h1, if_neg h2, if_pos h3, if_pos (.inr (.inr (.inl h3)))]
  rw [if_neg h1, if_neg h2, if_neg h3]
  cases hm : sMay x with
  | false => rw [if_pos rfl, if_pos (.inr (.inr (.inr rfl)))]
  | true =>
    have e : ¬ (who < 1 ∨ t.phase < 0 ∨ 5 < t.phase ∨ true = false) := by simp; omega
    rw [if_neg (by simp), if_neg e]
    by_cases h4 : t.phase = 0
    · rw [if_pos h4, if_pos h4]
    by_cases h5 : t.phase = 1
    · rw [if_neg h4, if_pos h5, if_neg h4, if_pos h5]
    rw [if_neg h4, if_neg h5, if_neg h4, if_neg h5]
    have hM := may_spec.1 hm
    have hr := (shd_range t.sender x.config.shards).2 (by have := (sCfg_spec.1 hM.cfg).1; omega)
    by_cases h6 : 0 ≤ sK t x
    · have hl : (sK t x).toNat < x.locks.length := by
        have := hM.llen
        have hr' : sK t x < x.config.shards := hr
        omega
      rw [if_pos h6, if_pos h6, List.getElem?_eq_getElem hl]
      simp [h6]
    · rw [if_neg h6]; simp [h6]

end Go.Vm

/- Layer 16, the program: a step of a task comes to what the plain step says. -/
set_option linter.unusedVariables false
set_option linter.unusedSimpArgs false
namespace Go.Vm
open Go Go.RowKit

theorem p_Clone_Shard (l : List Shard) (hl : l.length ≤ 1000000) : F_k74 l = some l := by
  simp only [F_k74, pk_k74]
  have h8 : l.length * 32 ≤ 140737488355328 := by omega
  cases l with
  | nil => simp [wboth]
  | cons x l => rw [if_neg (List.cons_ne_nil _ _), if_pos h8, if_neg (List.cons_ne_nil _ _)]

theorem wf_small {n : Int} (h0 : -1 ≤ n) (h1 : n ≤ 255) : wf64 n = true := by
  unfold wf64 Lit.wf
  have e0 : IntKind.i64.min = -9223372036854775808 := by decide
  have e1 : IntKind.i64.max = 9223372036854775807 := by decide
  simp only [e0, e1, Bool.and_eq_true, decide_eq_true_eq]
  omega

theorem p_shard_Get {c : Config} {k : Int} {s : Shard} (h : sChkS c k s = true) {n : Int} (h0 : 0 ≤ n) (h1 : n ≤ 255) : F_k6e s n = some (sGetA s.accounts n) := by
  simp only [sChkS, Bool.and_eq_true] at h
  have hl := accs_len h.2 (by omega)
  have hall : s.accounts.all (fun a => wf64 a.sender) = true := List.all_eq_true.2 fun a ha => by
    have := (sAcc_spec.1 (accs_mem h.2 a ha).1).1
    exact wf_small (by omega) (by omega)
  unfold F_k6e
  rw [if_pos ⟨wf_small (by omega) h1, hall, by omega⟩]

theorem p_task_Step {o : Op} {t : Task} {who : Int} {x : Sight} (h : TInv o t x) (hd : o.data.size ≤ 1048576) : F_k86 t who x = some (sStep t who x) := by
  have hsx := may_sh h.may
  have hab := p_task_Able t who x hsx
  cases ha : sAble t who x with
  | false => rw [ha] at hab; rw [w_task_Step_no t who x hab]; unfold sStep; rw [if_pos ha]
  | true =>
  rw [ha] at hab
  obtain ⟨hw, hp0, hp5, hm, hfr, hk⟩ := able_spec ha
  have hS : Short (L t.op.data) := by rw [h.op]; simp only [Short]; rw [L_len]; omega
  have hcf := sCfg_spec.1 hm.cfg
  have hll := hm.llen
  have hsl := hm.slen
  have hsn := h.snd
  have hpl := h.plan
  have hsee := see_few h ha
  have hops := h.op
  obtain ⟨op, ph, sd, pl, rs, pt⟩ := t
  simp only at hp0 hp5 hfr hk hS hsn hpl hsee
  unfold sStep
  rw [if_neg (by simp [ha])]
  by_cases h0 : ph = 0
  · subst h0
    rw [(w_task_Step_p0).2 _ _ _ hab rfl, if_pos rfl]
    simp only [w_task_Step_p0, hab, Option.bind_some, Bool.true_eq_false, if_false, p_task_shard, p_look_Whose _ hS, p_look_Look x.config ⟨-1, 0, []⟩ op (by simp) hS]
    cases hwh : (sWhose op.kind op.sender (L op.data)).2 with
    | true => simp only [Bool.true_eq_false, if_false, if_true]
    | false => simp only [if_true, Bool.false_eq_true, if_false]; rfl
  rw [if_neg h0]
  by_cases h1 : ph = 1
  · subst h1
    obtain ⟨k0, k1⟩ := free_spec (hfr rfl)
    have hkk : (((sK (⟨op, 1, sd, pl, rs, pt⟩ : Task) x).toNat : Nat) : Int) = sK (⟨op, 1, sd, pl, rs, pt⟩ : Task) x := by omega
    have hT := p_lock_Take x.locks _ who k1 (by omega) hw
    rw [hkk] at hT
    rw [(w_task_Step_p1).2 _ _ _ hab rfl, if_pos rfl]
    simp only [w_task_Step_p1, hab, Option.bind_some, Bool.true_eq_false, if_false, p_task_shard, hT]
  rw [if_neg h1]
  obtain ⟨k0, k1⟩ := hk (by omega)
  have hkl := len_of k1
  by_cases h2 : ph = 2
  · subst h2
    obtain ⟨ks, hks⟩ : ∃ k, k = sK (⟨op, 2, sd, pl, rs, pt⟩ : Task) x := ⟨_, rfl⟩
    rw [← hks] at k0 k1 hkl
    have hs : ks.toNat < x.shards.length := by omega
    have hg := List.getElem?_eq_getElem hs
    have e : sShard (⟨op, 2, sd, pl, rs, pt⟩ : Task) x = x.shards[ks.toNat] := by unfold sShard; rw [← hks, hg]; rfl
    have hc := hm.sh _ _ hg
    obtain ⟨s0, s1⟩ := hsn (by omega) (by omega)
    obtain ⟨q1, q2⟩ := hsee rfl
    rw [e] at q1
    have hT : Tiny (sGetA (x.shards[ks.toNat]).accounts sd).txs := by have := (sAcc_spec.1 q1).1; simp only [Tiny]; omega
    rw [(w_task_Step_p2).2 _ _ _ hab rfl, if_pos rfl]
    simp only [w_task_Step_p2, hab, Option.bind_some, Bool.true_eq_false, if_false, p_task_shard, ← hks, k0, if_true, hg, p_shard_Get hc s0 s1, p_look_Look _ _ op hT hS]
    rw [show sSee (⟨op, 2, sd, pl, rs, pt⟩ : Task) x = sLook x.config (sGetA (x.shards[ks.toNat]).accounts sd) op.kind op.nonce (L op.data) from by unfold sSee; rw [e]]
    cases hch : (sLook x.config (sGetA (x.shards[ks.toNat]).accounts sd) op.kind op.nonce (L op.data)).changes with
    | true => simp only [Bool.true_eq_false, if_false, if_true]
    | false => simp only [if_true, Bool.false_eq_true, if_false]; rfl
  rw [if_neg h2]
  by_cases h3 : ph = 3
  · subst h3
    obtain ⟨_, _, d0, d1⟩ := hpl (.inl rfl)
    rw [(w_task_Step_p3).2 _ _ _ hab rfl, if_pos rfl]
    simp only [w_task_Step_p3, hab, Option.bind_some, Bool.true_eq_false, if_false, p_task_shard, p_pot_Adjust x.pot pl.delta (by omega), p_look_Full]
    by_cases hz : (sAdj x.pot pl.delta).2 = 0
    · rw [if_pos hz, if_pos hz]; rfl
    · rw [if_neg hz, if_neg hz]; rfl
  rw [if_neg h3]
  by_cases h4 : ph = 4
  · subst h4
    obtain ⟨ks, hks⟩ : ∃ k, k = sK (⟨op, 4, sd, pl, rs, pt⟩ : Task) x := ⟨_, rfl⟩
    rw [← hks] at k0 k1 hkl
    have hs : ks.toNat < x.shards.length := by omega
    have hg := List.getElem?_eq_getElem hs
    have e : sShard (⟨op, 4, sd, pl, rs, pt⟩ : Task) x = x.shards[ks.toNat] := by unfold sShard; rw [← hks, hg]; rfl
    have hc := hm.sh _ _ hg
    have hfew : (x.shards[ks.toNat]).accounts.length ≤ 1000000 := by
      simp only [sChkS, Bool.and_eq_true] at hc
      have := accs_len hc.2 (by omega)
      omega
    have hi : 0 ≤ ks ∧ ks < (x.shards.length : Int) := by omega
    rw [(w_task_Step_p4).2 _ _ _ hab rfl, if_pos rfl]
    simp only [w_task_Step_p4, hab, Option.bind_some, Bool.true_eq_false, if_false, p_task_shard, ← hks, p_Clone_Shard x.shards (by omega), hi, and_self, if_true, hg, p_shard_Set _ _ hfew, hs, e]
  rw [if_neg h4]
  obtain rfl : ph = 5 := by omega
  have hkk : (((sK (⟨op, 5, sd, pl, rs, pt⟩ : Task) x).toNat : Nat) : Int) = sK (⟨op, 5, sd, pl, rs, pt⟩ : Task) x := by omega
  have hT := p_lock_Give x.locks _ who k1 (by omega) hw
  rw [hkk] at hT
  rw [(w_task_Step_p5).2 _ _ _ hab rfl]
  simp only [w_task_Step_p5, hab, Option.bind_some, Bool.true_eq_false, if_false, p_task_shard, hT]

end Go.Vm

/- Layer 16, the document's small functions: few, the same, own and told. -/
set_option linter.unusedVariables false
set_option linter.unusedSimpArgs false
namespace Go.Vm
open Go Go.RowKit

theorem loop_done {α β : Type} {fin : Option β} : ∀ (k : List α) (i : Nat), loopL (γ := Unit) (fun _ _ _ => some (.inl ())) (fun _ => fin) i () k = fin
  | [], _ => rfl
  | _ :: k, i => loop_done k (i + 1)

theorem allI_true {α : Type} : ∀ (l : List α) (i : Nat), allI (fun _ _ => true) i l = true
  | [], _ => rfl
  | _ :: l, i => by unfold allI; rw [allI_true l (i + 1)]; rfl

theorem take_nx {α : Type} {l : List α} {i : Nat} {a : α} (h : l[i]? = some a) : l.take i ++ [a] = l.take (i + 1) := by
  rw [List.take_add_one, h]; rfl

theorem p_law11_Own (l : List Shard) (hl : l.length ≤ 1048576) : F_k0c l = some l := by
  simp only [F_k0c, pk_k0c]
  refine run_bind (γ := Unit) l (fun i _ => ⟨l, i, [], l.take i⟩) (fun _ _ _ => some (.inl ())) (fun _ => some (.inl ⟨l, l.length, [], l.take l.length⟩)) () rfl ?_ ?_ ?_
  · intro i c a ha
    obtain ⟨g1, g2, g3, g4⟩ := at_ ha (sh_of hl)
    have hil := (List.getElem?_eq_some_iff.1 ha).1
    have hr : ((l.take i).length + 1) * 32 ≤ 140737488355328 := by rw [List.length_take]; omega
    simp only [g1, g2, g3, g4, ha, if_true, Option.bind_some, hr, take_nx ha]
  · intro c; simp; try rfl
  · rw [loop_done]
    simp [selim]

theorem p_law16_OwnSight (x : Sight) (h : ShX x) : F_k13 x = some x := by
  simp only [F_k13, pk_k13, p_law11_Own _ h.2.1, Option.bind_some]

theorem p_law16_ToldSight (x : Sight) (h : ShX x) : F_k17 x = some x := by
  simp only [F_k17, pk_k17]
  refine run_bind (γ := Unit) x.shards (fun i _ => { i := i, s_ := x, config_shards := 0, config_soft := 0, config_hard := 0, config_per := 0, config_bump := 0, config_feed := 0, config_workers := 0, config_room := 0, pot_taken := 0, pot_most := 0, o2 := x.shards.take i, config_shards2 := x.config.shards, config_soft2 := x.config.soft, config_hard2 := x.config.hard, config_per2 := x.config.per, config_bump2 := x.config.bump, config_feed2 := x.config.feed, config_workers2 := x.config.workers, config_room2 := x.config.room, locks := x.locks, pot_taken2 := x.pot.taken, pot_most2 := x.pot.most }) (fun _ _ _ => some (.inl ())) (fun _ => some (.inl { i := x.shards.length, s_ := x, config_shards := 0, config_soft := 0, config_hard := 0, config_per := 0, config_bump := 0, config_feed := 0, config_workers := 0, config_room := 0, pot_taken := 0, pot_most := 0, o2 := x.shards.take x.shards.length, config_shards2 := x.config.shards, config_soft2 := x.config.soft, config_hard2 := x.config.hard, config_per2 := x.config.per, config_bump2 := x.config.bump, config_feed2 := x.config.feed, config_workers2 := x.config.workers, config_room2 := x.config.room, locks := x.locks, pot_taken2 := x.pot.taken, pot_most2 := x.pot.most })) () rfl ?_ ?_ ?_
  · intro i c a ha
    obtain ⟨g1, g2, g3, g4⟩ := at_ ha (sh_of h.2.1)
    have hil := (List.getElem?_eq_some_iff.1 ha).1
    have hr : ((x.shards.take i).length + 1) * 32 ≤ 140737488355328 := by have := h.2.1; rw [List.length_take]; omega
    simp only [g1, g2, g3, g4, ha, if_true, Option.bind_some, hr, take_nx ha]
  · intro c; simp; try rfl
  · rw [loop_done]
    simp [selim]

theorem p_r11_Few (l : List Acc) (m : Int) (h : l.length ≤ 1048576 ∧ ∀ a ∈ l, a.txs.length ≤ 1048576) : ∃ b, F_k57 l m = some b := by
  simp only [F_k57, pk_k57]
  refine ⟨_, all_run l (fun i => (⟨l, m, i⟩ : L_k57_0)) (fun _ a => sFew a.txs 20) rfl ?_ ?_ rfl⟩
  · intro i a ha
    obtain ⟨g1, g2, g3, g4⟩ := at_ ha (sh_of h.1)
    simp only [g1, g2, g3, g4, ha, if_true, Option.bind_some, p_r04_Few a.txs 20 (sh_of (h.2 a (List.mem_of_getElem? ha)))]
    cases sFew a.txs 20 <;> (simp; try rfl)
  · simp; try rfl

theorem p_r16_Small (x : Sight) (h : ShX x) : ∃ b, F_k69 x = some b := by
  simp only [F_k69, pk_k69]
  have hf : ∀ s : L_k69_0, ∃ q, (if (s.s_.shards.length : Int) ≤ 10 then some (decide ((s.s_.locks.length : Int) ≤ 10)) else some false) = some q := by
    intro s; split <;> exact ⟨_, rfl⟩
  obtain ⟨q, hq⟩ := hf ⟨x.shards.length, x⟩
  have hfew : ∃ f : Acc → Bool, True := ⟨fun _ => true, trivial⟩
  obtain ⟨f, hfe⟩ : ∃ f : Shard → Bool, ∀ s ∈ x.shards, F_k57 s.accounts 20 = some (f s) := by
    refine ⟨fun s => (F_k57 s.accounts 20).getD false, fun s hs => ?_⟩
    obtain ⟨b, hb⟩ := p_r11_Few s.accounts 20 (h.2.2 s hs)
    show F_k57 s.accounts 20 = some ((F_k57 s.accounts 20).getD false)
    rw [hb]; rfl
  refine ⟨_, all_run x.shards (fun i => (⟨i, x⟩ : L_k69_0)) (fun _ s => f s) rfl ?_ ?_ hq⟩
  · intro i a ha
    obtain ⟨g1, g2, g3, g4⟩ := at_ ha (sh_of h.2.1)
    simp only [g1, g2, g3, g4, ha, if_true, Option.bind_some, hfe a (List.mem_of_getElem? ha)]
    cases f a <;> (simp; try rfl)
  · simp; try rfl

theorem p_r09_Same (l : List Int) (hl : l.length ≤ 1048576) : F_k54 l l = some true := by
  simp only [F_k54, pk_k54, if_true]
  refine (all_run (q := true) l (fun i => (⟨l, l, i⟩ : L_k54_0)) (fun _ _ => true) rfl ?_ ?_ rfl).trans (by rw [allI_true]; rfl)
  · intro i a ha
    obtain ⟨g1, g2, g3, g4⟩ := at_ ha (sh_of hl)
    simp only [g1, g2, g3, g4, ha, if_true, Option.bind_some]; rfl
  · simp; try rfl

theorem p_r11_Accounts (l : List Acc) (h : l.length ≤ 1048576 ∧ ∀ a ∈ l, a.txs.length ≤ 1048576) : F_k55 l l = some true := by
  simp only [F_k55, pk_k55, if_true]
  refine (all_run (q := true) l (fun i => (⟨l, l, i⟩ : L_k55_0)) (fun _ _ => true) rfl ?_ ?_ rfl).trans (by rw [allI_true]; rfl)
  · intro i a ha
    obtain ⟨g1, g2, g3, g4⟩ := at_ ha (sh_of h.1)
    simp only [g1, g2, g3, g4, ha, if_true, Option.bind_some, p_r05_Same a (sh_of (h.2 a (List.mem_of_getElem? ha))), Bool.true_eq_false, if_false]; rfl
  · simp; try rfl

theorem p_r11_Same (s : Shard) (h : ShS s) : F_k58 s s = some true := by
  simp only [F_k58, pk_k58, if_true, p_r11_Accounts s.accounts h]

theorem p_r16_SameSight (x : Sight) (h : ShX x) : F_k68 x x = some true := by
  simp only [F_k68, pk_k68, not_true_eq_false, or_self, if_false, p_r09_Same _ h.1, Option.bind_some, Bool.true_eq_false, if_true]
  refine (all_run (q := true) x.shards (fun i => (⟨i, x, x⟩ : L_k68_0)) (fun _ _ => true) rfl ?_ ?_ rfl).trans (by rw [allI_true]; rfl)
  · intro i a ha
    obtain ⟨g1, g2, g3, g4⟩ := at_ ha (sh_of h.2.1)
    simp only [g1, g2, g3, g4, ha, if_true, Option.bind_some, p_r11_Same a (h.2.2 a (List.mem_of_getElem? ha)), Bool.true_eq_false, if_false]; rfl
  · simp; try rfl

theorem p_r16_Same (t : Task) (h1 : t.plan.after.txs.length ≤ 1000) (h2 : t.plan.events.length ≤ 1000) (h3 : t.plan.result.txs.length ≤ 1000) (h4 : t.result.txs.length ≤ 1000) : F_k67 t t = some true := by
  have a1 : Short t.plan.after.txs := by simp only [Short]; omega
  have a2 : Short t.plan.events := by simp only [Short]; omega
  have a3 : Short t.plan.result.txs := by simp only [Short]; omega
  have a4 : Short t.result.txs := by simp only [Short]; omega
  simp only [F_k67, pk_k67, and_self, if_true, p_r15_Same t.plan a1 a2 a3, Option.bind_some, p_r13_Same t.result a4]

theorem p_law16_Told (t : Task) : F_k16 t = some t := rfl

end Go.Vm

/- What compares two lists answers something, whatever they are. -/
set_option linter.unusedVariables false
set_option linter.unusedSimpArgs false
namespace Go.Vm
open Go Go.RowKit

theorem at2 {α β : Type} {l : List α} {m : List β} {i : Nat} {a : α} (h : l[i]? = some a) (hl : l.length = m.length) : ∃ b, m[i]? = some b := by
  have := (List.getElem?_eq_some_iff.1 h).1
  exact ⟨_, List.getElem?_eq_getElem (by omega)⟩

theorem t_r04_Txs (l m : List Tx) (hl : Short l) : ∃ b, F_k4a l m = some b := by
  simp only [F_k4a, pk_k4a]
  by_cases h : (l.length : Int) = (m.length : Int)
  case neg => exact ⟨_, if_neg h⟩
  rw [if_pos h]
  have hlm : l.length = m.length := by omega
  refine ⟨_, all_run (q := true) l (fun i => (⟨l, m, i⟩ : L_k4a_0)) (fun i a => match m[i]? with | some b => !decide (¬ a.sender = b.sender ∨ ¬ a.nonce = b.nonce ∨ ¬ a.tip = b.tip ∨ ¬ a.cap = b.cap ∨ ¬ a.gas = b.gas ∨ ¬ a.data = b.data) | none => false) rfl ?_ ?_ rfl⟩
  · intro i a ha
    obtain ⟨g1, g2, g3, g4⟩ := at_ ha hl
    obtain ⟨b, hb⟩ := at2 ha hlm
    simp only [g1, g2, g3, g4, ha, hb, if_true, Option.bind_some]
    by_cases hc : ¬ a.sender = b.sender ∨ ¬ a.nonce = b.nonce ∨ ¬ a.tip = b.tip ∨ ¬ a.cap = b.cap ∨ ¬ a.gas = b.gas ∨ ¬ a.data = b.data
    · rw [if_pos hc]; rw [decide_eq_true hc]; rfl
    · rw [if_neg hc]; rw [decide_eq_false hc]; rfl
  · simp; try rfl

theorem t_r05_Same (a b : Acc) (hl : Short a.txs) : ∃ r, F_k51 a b = some r := by
  simp only [F_k51, pk_k51]
  split
  · split
    · exact t_r04_Txs _ _ hl
    · exact ⟨_, rfl⟩
  · exact ⟨_, rfl⟩

theorem t_r13_Same (a b : Result) (hl : Short a.txs) : ∃ r, F_k5c a b = some r := by
  simp only [F_k5c, pk_k5c]
  split
  · split
    · split
      · exact t_r04_Txs _ _ hl
      · exact ⟨_, rfl⟩
    · exact ⟨_, rfl⟩
  · exact ⟨_, rfl⟩

theorem t_r09_Same (l m : List Int) (hl : l.length ≤ 1048576) : ∃ b, F_k54 l m = some b := by
  simp only [F_k54, pk_k54]
  by_cases h : (l.length : Int) = (m.length : Int)
  case neg => exact ⟨_, if_neg h⟩
  rw [if_pos h]
  have hlm : l.length = m.length := by omega
  refine ⟨_, all_run (q := true) l (fun i => (⟨l, m, i⟩ : L_k54_0)) (fun i a => match m[i]? with | some b => decide (a = b) | none => false) rfl ?_ ?_ rfl⟩
  · intro i a ha
    obtain ⟨g1, g2, g3, g4⟩ := at_ ha (sh_of hl)
    obtain ⟨b, hb⟩ := at2 ha hlm
    simp only [g1, g2, g3, g4, ha, hb, if_true, Option.bind_some]
    by_cases hc : a = b
    · rw [if_pos hc, decide_eq_true hc]; rfl
    · rw [if_neg hc, decide_eq_false hc]; rfl
  · simp; try rfl

theorem t_r11_Accounts (l m : List Acc) (h : l.length ≤ 1048576 ∧ ∀ a ∈ l, a.txs.length ≤ 1048576) : ∃ b, F_k55 l m = some b := by
  simp only [F_k55, pk_k55]
  by_cases hL : (l.length : Int) = (m.length : Int)
  case neg => exact ⟨_, if_neg hL⟩
  rw [if_pos hL]
  have hlm : l.length = m.length := by omega
  refine ⟨_, all_run (q := true) l (fun i => (⟨l, m, i⟩ : L_k55_0)) (fun i a => match m[i]? with | some b => (F_k51 a b).getD false | none => false) rfl ?_ ?_ rfl⟩
  · intro i a ha
    obtain ⟨g1, g2, g3, g4⟩ := at_ ha (sh_of h.1)
    obtain ⟨b, hb⟩ := at2 ha hlm
    obtain ⟨r, hr⟩ := t_r05_Same a b (sh_of (h.2 a (List.mem_of_getElem? ha)))
    simp only [g1, g2, g3, g4, ha, hb, hr, if_true, Option.bind_some, Option.getD_some]
    cases r <;> (simp; try rfl)
  · simp; try rfl

theorem t_r11_Same (s t : Shard) (h : ShS s) : ∃ b, F_k58 s t = some b := by
  simp only [F_k58, pk_k58]
  split
  · exact t_r11_Accounts _ _ h
  · exact ⟨_, rfl⟩

theorem t_r16_SameSight (x y : Sight) (h : ShX x) : ∃ b, F_k68 x y = some b := by
  simp only [F_k68, pk_k68]
  split
  · exact ⟨_, rfl⟩
  split
  · exact ⟨_, rfl⟩
  obtain ⟨b, hb⟩ := t_r09_Same x.locks y.locks h.1
  rw [hb]
  simp only [Option.bind_some]
  split
  · exact ⟨_, rfl⟩
  by_cases hL : (x.shards.length : Int) = (y.shards.length : Int)
  case neg => exact ⟨_, if_neg hL⟩
  rw [if_pos hL]
  have hlm : x.shards.length = y.shards.length := by omega
  refine ⟨_, all_run (q := true) x.shards (fun i => (⟨i, x, y⟩ : L_k68_0)) (fun i a => match y.shards[i]? with | some b => (F_k58 a b).getD false | none => false) rfl ?_ ?_ rfl⟩
  · intro i a ha
    obtain ⟨g1, g2, g3, g4⟩ := at_ ha (sh_of h.2.1)
    obtain ⟨b, hb⟩ := at2 ha hlm
    obtain ⟨r, hr⟩ := t_r11_Same a b (h.2.2 a (List.mem_of_getElem? ha))
    simp only [g1, g2, g3, g4, ha, hb, hr, if_true, Option.bind_some, Option.getD_some]
    cases r <;> (simp; try rfl)
  · simp; try rfl

theorem t_r16_Same (t u : Task) (h1 : t.plan.after.txs.length ≤ 1000) (h2 : t.plan.events.length ≤ 1000) (h3 : t.plan.result.txs.length ≤ 1000) (h4 : t.result.txs.length ≤ 1000) (hp : ∃ b, F_k60 t.plan u.plan = some b) : ∃ b, F_k67 t u = some b := by
  simp only [F_k67, pk_k67]
  obtain ⟨b, hb⟩ := hp
  repeat' split
  all_goals first
    | exact ⟨_, rfl⟩
    | skip
  rw [hb]
  simp only [Option.bind_some]
  split
  · exact t_r13_Same _ _ (by simp only [Short]; omega)
  · exact ⟨_, rfl⟩

end Go.Vm

/- What the example of layer 16 comes to, step by step. -/
set_option linter.unusedVariables false
set_option linter.unusedSimpArgs false
namespace Go.Vm
open Go Go.RowKit

theorem nb_small {n : Nat} (h : n < 256) : nb n = [UInt8.ofNat n] := by unfold nb; rw [dif_pos h]
theorem L_empty : L ByteArray.empty = [] := rfl

def vC : Config := ⟨1, 0, 1, 2, 0, 1, 1, 1⟩
def vT : Tx := ⟨1, 0, 5, 9, 10, ByteArray.empty⟩
def vL : List UInt8 := [1, 1, 1, 1, 0, 1, 5, 1, 9, 1, 10, 0, 0]
def vS : ByteArray := mk vL
def vO : Op := ⟨0, 0, 0, 0, vS⟩
def zPlan : Plan := ⟨false, 0, zAcc, [], zRes⟩
def vNew (o : Op) : Task := ⟨o, 0, 0, zPlan, zRes, false⟩
def vA : Acc := ⟨1, 0, [vT]⟩
def vE : Event := ⟨1, vT, 0⟩
def vP : Plan := ⟨true, 1, vA, [vE], zRes⟩
def vX (l k : Int) (s : List Shard) : Sight := ⟨vC, [l], ⟨k, 1⟩, s⟩
def v0 : List Shard := [⟨[], 0⟩]
def v1 : List Shard := [⟨[vA], 1⟩]

theorem v_enc : encL vT = vL := by
  simp [encL, vT, numL, textL, L_empty, nb_small, vL]
theorem v_ok : sTx vT = true := by decide
theorem v_dec : sDec vL = some vT := by rw [← v_enc]; exact sDec_enc _ v_ok
theorem v_ts : sTs vT = 1 := by
  unfold sTs
  rw [if_pos v_ok, v_enc]
  rfl
theorem v_q1 : sQ [vT] = 1 := by simp [sQ, v_ts]
theorem v_q0 : sQ [] = 0 := rfl
theorem v_hL : L vO.data = vL := by simp [vO, vS]
theorem v_whose : sWhose vO.kind vO.sender (L vO.data) = (1, true) := by
  rw [v_hL]
  simp only [sWhose, vO, if_true, v_dec]
  rfl
theorem v_look : sLook vC ⟨1, 0, []⟩ vO.kind vO.nonce (L vO.data) = vP := by
  rw [v_hL]
  have hp : sPlace ⟨1, 0, []⟩ vT vC.per vC.bump = (1, 0) := by
    have ha : sAcc ⟨1, 0, []⟩ vC.per = true := by decide
    simp only [sPlace, ha, v_ok, v_ts]
    rfl
  simp only [sLook, vO, if_true, sAdd, v_dec, hp]
  simp only [sTo, sPut, sPutL, vP]
  rw [show sFind ([] : List Tx) vT.nonce = (zTx, false) from rfl]
  simp only [Bool.false_eq_true, if_false, sIns]
  rw [v_q1, v_q0]
  rfl
theorem v_shd : sShd 1 1 = 0 := by
  unfold sShd
  rw [if_pos (by decide), Int.emod_one]
theorem v_k (t : Task) (x : Sight) (h1 : t.sender = 1) (h2 : x.config = vC) : sK t x = 0 := by
  unfold sK; rw [h1, h2]; exact v_shd
theorem v_may0 (l k : Int) (hl : 0 ≤ l) (hk : 0 ≤ k ∧ k ≤ 1) : sMay (vX l k v0) = true := by
  refine may_spec.2 ⟨(by decide : sCfg vC = true), rfl, rfl, rfl, hk.1, hk.2, fun i v hv => ?_, fun i s hs => ?_⟩
  · cases i with
    | zero => simp [vX] at hv; omega
    | succ i => simp [vX] at hv
  · cases i with
    | zero => simp [vX, v0] at hs; subst hs; rfl
    | succ i => simp [vX, v0] at hs
theorem v_acc : sAcc vA 2 = true := by decide
theorem v_may1 (l k : Int) (hl : 0 ≤ l) (hk : 0 ≤ k ∧ k ≤ 1) : sMay (vX l k v1) = true := by
  refine may_spec.2 ⟨(by decide : sCfg vC = true), rfl, rfl, rfl, hk.1, hk.2, fun i v hv => ?_, fun i s hs => ?_⟩
  · cases i with
    | zero => simp [vX] at hv; omega
    | succ i => simp [vX] at hv
  · cases i with
    | zero =>
      simp [vX, v1] at hs; subst hs
      unfold sChkS
      rw [Bool.and_eq_true]
      refine ⟨by decide, accs_cons.2 ⟨⟨v_acc, by decide, by decide, ?_⟩, rfl⟩⟩
      exact v_shd
    | succ i => simp [vX, v1] at hs

def vt1 : Task := ⟨vO, 1, 1, zPlan, zRes, false⟩
def vt2 : Task := ⟨vO, 2, 1, zPlan, zRes, false⟩
def vt3 : Task := ⟨vO, 3, 1, vP, zRes, false⟩
def vt4 : Task := ⟨vO, 4, 1, vP, zRes, true⟩
def vt5 : Task := ⟨vO, 5, 1, vP, zRes, true⟩
def vt6 : Task := ⟨vO, 6, 1, vP, zRes, true⟩

theorem v_able0 (o : Op) (x : Sight) (h : sMay x = true) : sAble (vNew o) 7 x = true := by
  unfold sAble
  rw [h]
  rfl
theorem v_able1 : sAble vt1 7 (vX 0 0 v0) = true := by
  unfold sAble
  rw [v_may0 0 0 (by decide) (by decide), v_k _ _ rfl rfl]
  rfl
theorem v_ableN (t : Task) (k : Int) (s : List Shard) (h : sMay (vX 7 k s) = true) (h1 : t.sender = 1) (h2 : 2 ≤ t.phase) (h3 : t.phase ≤ 5) : sAble t 7 (vX 7 k s) = true := by
  unfold sAble
  rw [h, v_k _ _ h1 rfl]
  have e : ¬ ((7 : Int) < 1 ∨ t.phase < 0 ∨ 5 < t.phase ∨ true = false) := by simp; omega
  rw [if_neg e, if_neg (by omega), if_neg (by omega)]
  rfl

theorem v_s0 : sStep (vNew vO) 7 (vX 0 0 v0) = (vt1, vX 0 0 v0, [], false) := by
  unfold sStep
  rw [v_able0 _ _ (v_may0 0 0 (by decide) (by decide)), if_neg (by decide), if_pos (show (vNew vO).phase = 0 from rfl)]
  rw [show sWhose (vNew vO).op.kind (vNew vO).op.sender (L (vNew vO).op.data) = (1, true) from v_whose]
  rfl
theorem v_s1 : sStep vt1 7 (vX 0 0 v0) = (vt2, vX 7 0 v0, [], false) := by
  unfold sStep
  rw [v_able1, v_k _ _ rfl rfl]
  rfl
theorem v_see : sSee vt2 (vX 7 0 v0) = vP := by
  unfold sSee sShard
  rw [v_k _ _ rfl rfl]
  exact v_look
theorem v_s2 : sStep vt2 7 (vX 7 0 v0) = (vt3, vX 7 0 v0, [], false) := by
  unfold sStep
  rw [v_ableN _ _ _ (v_may0 7 0 (by decide) (by decide)) rfl (by decide) (by decide), v_see]
  rfl
theorem v_s3 : sStep vt3 7 (vX 7 0 v0) = (vt4, vX 7 1 v0, [vE], true) := by
  unfold sStep
  rw [v_ableN _ _ _ (v_may0 7 0 (by decide) (by decide)) rfl (by decide) (by decide)]
  rfl
theorem v_s4 : sStep vt4 7 (vX 7 1 v0) = (vt5, vX 7 1 v1, [], false) := by
  unfold sStep sShard
  rw [v_ableN _ _ _ (v_may0 7 1 (by decide) (by decide)) rfl (by decide) (by decide), v_k _ _ rfl rfl]
  rfl
theorem v_s5 : sStep vt5 7 (vX 7 1 v1) = (vt6, vX 0 1 v1, [], false) := by
  unfold sStep
  rw [v_ableN _ _ _ (v_may1 7 1 (by decide) (by decide)) rfl (by decide) (by decide), v_k _ _ rfl rfl]
  rfl
def vQ : Op := ⟨0, 0, 0, 0, ⟨#[120]⟩⟩
theorem v_b : sStep (vNew vQ) 7 (vX 0 1 v1) = (sEnd (vNew vQ) (wrong 2).result 6, vX 0 1 v1, [], true) := by
  unfold sStep
  rw [v_able0 _ _ (v_may1 0 1 (by decide) (by decide)), if_neg (by decide), if_pos (show (vNew vQ).phase = 0 from rfl)]
  rw [show sWhose (vNew vQ).op.kind (vNew vQ).op.sender (L (vNew vQ).op.data) = (0, false) from rfl]
  rw [if_neg (by decide)]
  rfl
theorem v_done : sAble vt6 7 (vX 0 1 v1) = false := by
  unfold sAble
  rw [if_pos (.inr (.inr (.inl (by decide))))]

theorem tinv_new (o : Op) {x : Sight} (h : MayS x) : TInv o (vNew o) x :=
  ⟨rfl, h, (by decide : (0 : Int) ≤ 0), (by decide : (0 : Int) ≤ 6), rfl, fun h => absurd h (show ¬ 1 ≤ (0 : Int) by decide), fun h => by
    rcases h with h | h
    · exact absurd h (show ¬ (0 : Int) = 3 by decide)
    · exact absurd h (show ¬ (0 : Int) = 4 by decide), Nat.zero_le _, Nat.zero_le _, Nat.zero_le _, Nat.zero_le _⟩

theorem v_i0 : TInv vO (vNew vO) (vX 0 0 v0) := tinv_new vO (may_spec.1 (v_may0 0 0 (by decide) (by decide)))
theorem v_nx {o : Op} {t u : Task} {x y : Sight} {e : List Event} {b : Bool} (h : TInv o t x) (hs : sStep t 7 x = (u, y, e, b)) : TInv o u y := by
  have := (step_all h (show (1 : Int) ≤ 7 by decide)).1
  rw [hs] at this
  exact this
theorem v_i1 : TInv vO vt1 (vX 0 0 v0) := v_nx v_i0 v_s0
theorem v_i2 : TInv vO vt2 (vX 7 0 v0) := v_nx v_i1 v_s1
theorem v_i3 : TInv vO vt3 (vX 7 0 v0) := v_nx v_i2 v_s2
theorem v_i4 : TInv vO vt4 (vX 7 1 v0) := v_nx v_i3 v_s3
theorem v_i5 : TInv vO vt5 (vX 7 1 v1) := v_nx v_i4 v_s4
theorem v_i6 : TInv vO vt6 (vX 0 1 v1) := v_nx v_i5 v_s5

theorem v_step {o : Op} {t u : Task} {x y : Sight} {e : List Event} {b : Bool} (h : TInv o t x) (hd : o.data.size ≤ 1048576) (hs : sStep t 7 x = (u, y, e, b)) : F_k86 t 7 x = some (u, y, e, b) := by
  rw [p_task_Step h hd, hs]
theorem v_dO : vO.data.size ≤ 1048576 := by decide
theorem v_f0 : F_k86 (vNew vO) 7 (vX 0 0 v0) = some (vt1, vX 0 0 v0, [], false) := v_step v_i0 v_dO v_s0
theorem v_f1 : F_k86 vt1 7 (vX 0 0 v0) = some (vt2, vX 7 0 v0, [], false) := v_step v_i1 v_dO v_s1
theorem v_f2 : F_k86 vt2 7 (vX 7 0 v0) = some (vt3, vX 7 0 v0, [], false) := v_step v_i2 v_dO v_s2
theorem v_f3 : F_k86 vt3 7 (vX 7 0 v0) = some (vt4, vX 7 1 v0, [vE], true) := v_step v_i3 v_dO v_s3
theorem v_f4 : F_k86 vt4 7 (vX 7 1 v0) = some (vt5, vX 7 1 v1, [], false) := v_step v_i4 v_dO v_s4
theorem v_f5 : F_k86 vt5 7 (vX 7 1 v1) = some (vt6, vX 0 1 v1, [], false) := v_step v_i5 v_dO v_s5
theorem v_fb : F_k86 (vNew vQ) 7 (vX 0 1 v1) = some (sEnd (vNew vQ) (wrong 2).result 6, vX 0 1 v1, [], true) :=
  v_step (tinv_new vQ (may_spec.1 (v_may1 0 1 (by decide) (by decide)))) (by decide) v_b

theorem v_ab (t : Task) {x : Sight} (h : sMay x = true) (b : Bool) (hb : sAble t 7 x = b) : F_k82 t 7 x = some b := by
  rw [p_task_Able t 7 x (may_sh (may_spec.1 h)), hb]
theorem v_a0 : F_k82 (vNew vO) 7 (vX 0 0 v0) = some true := v_ab _ (v_may0 0 0 (by decide) (by decide)) _ (v_able0 _ _ (v_may0 0 0 (by decide) (by decide)))
theorem v_a1 : F_k82 vt1 7 (vX 0 0 v0) = some true := v_ab _ (v_may0 0 0 (by decide) (by decide)) _ v_able1
theorem v_a2 : F_k82 vt2 7 (vX 7 0 v0) = some true := v_ab _ (v_may0 7 0 (by decide) (by decide)) _ (v_ableN _ _ _ (v_may0 7 0 (by decide) (by decide)) rfl (by decide) (by decide))
theorem v_a3 : F_k82 vt3 7 (vX 7 0 v0) = some true := v_ab _ (v_may0 7 0 (by decide) (by decide)) _ (v_ableN _ _ _ (v_may0 7 0 (by decide) (by decide)) rfl (by decide) (by decide))
theorem v_a4 : F_k82 vt4 7 (vX 7 1 v0) = some true := v_ab _ (v_may0 7 1 (by decide) (by decide)) _ (v_ableN _ _ _ (v_may0 7 1 (by decide) (by decide)) rfl (by decide) (by decide))
theorem v_a5 : F_k82 vt5 7 (vX 7 1 v1) = some true := v_ab _ (v_may1 7 1 (by decide) (by decide)) _ (v_ableN _ _ _ (v_may1 7 1 (by decide) (by decide)) rfl (by decide) (by decide))
theorem v_a6 : F_k82 vt6 7 (vX 0 1 v1) = some false := v_ab _ (v_may1 0 1 (by decide) (by decide)) _ v_done
theorem v_may : F_k83 (vX 0 1 v1) = some true := by rw [p_task_May _ (may_sh (may_spec.1 (v_may1 0 1 (by decide) (by decide)))), v_may1 0 1 (by decide) (by decide)]
theorem v_encode : F_k46 { sender := 1, nonce := 0, tip := 5, cap := 9, gas := 10, data := ByteArray.empty } = some (vS, true) := by
  have := p_r04_Encode vT
  rw [if_pos v_ok, v_enc] at this
  exact this
theorem v_new (o : Op) : F_k84 o = some (vNew o) := rfl

end Go.Vm

/- What the example of layer 16 is told, in the form in which the code asks. -/
set_option linter.unusedVariables false
set_option linter.unusedSimpArgs false
namespace Go.Vm
open Go Go.RowKit

theorem v_open : F_k85 { shards := 1, soft := 0, hard := 1, per := 2, bump := 0, feed := 1, workers := 1, room := 1 } = some (vX 0 0 v0, 0) := by
  simp only [F_k85, pk_k85, p_pool_Config, Option.bind_some, F_k1b, pk_k1b, F_k2e, pk_k2e]
  rfl
def vt0 : Task := vNew vO
def vb0 : Task := vNew vQ
def vb1 : Task := sEnd (vNew vQ) (wrong 2).result 6
def vx0 : Sight := vX 0 0 v0
def vx2 : Sight := vX 7 0 v0
def vx4 : Sight := vX 7 1 v0
def vx5 : Sight := vX 7 1 v1
def vx6 : Sight := vX 0 1 v1
theorem w_open : F_k85 { shards := 1, soft := 0, hard := 1, per := 2, bump := 0, feed := 1, workers := 1, room := 1 } = some (vx0, 0) := v_open
theorem w_new : F_k84 { kind := 0, sender := 0, nonce := 0, gas := 0, data := vS } = some vt0 := rfl
theorem w_newb : F_k84 { kind := 0, sender := 0, nonce := 0, gas := 0, data := { data := #[120] } } = some vb0 := rfl
theorem w_a0 : F_k82 vt0 7 vx0 = some true := v_a0
theorem w_a1 : F_k82 vt1 7 vx0 = some true := v_a1
theorem w_a2 : F_k82 vt2 7 vx2 = some true := v_a2
theorem w_a3 : F_k82 vt3 7 vx2 = some true := v_a3
theorem w_a4 : F_k82 vt4 7 vx4 = some true := v_a4
theorem w_a5 : F_k82 vt5 7 vx5 = some true := v_a5
theorem w_a6 : F_k82 vt6 7 vx6 = some false := v_a6
theorem w_f0 : F_k86 vt0 7 vx0 = some (vt1, vx0, [], false) := v_f0
theorem w_f1 : F_k86 vt1 7 vx0 = some (vt2, vx2, [], false) := v_f1
theorem w_f2 : F_k86 vt2 7 vx2 = some (vt3, vx2, [], false) := v_f2
theorem w_f3 : F_k86 vt3 7 vx2 = some (vt4, vx4, [vE], true) := v_f3
theorem w_f4 : F_k86 vt4 7 vx4 = some (vt5, vx5, [], false) := v_f4
theorem w_f5 : F_k86 vt5 7 vx5 = some (vt6, vx6, [], false) := v_f5
theorem w_fb : F_k86 vb0 7 vx6 = some (vb1, vx6, [], true) := v_fb
theorem w_m : F_k83 vx6 = some true := v_may
theorem w_p0 : (vt0.phase = 0) ↔ True := ⟨fun _ => trivial, fun _ => rfl⟩
theorem w_p1 : (vt1.phase = 1) ↔ True := ⟨fun _ => trivial, fun _ => rfl⟩
theorem w_p2 : (vt2.phase = 2) ↔ True := ⟨fun _ => trivial, fun _ => rfl⟩
theorem w_p3 : (vt3.phase = 3) ↔ True := ⟨fun _ => trivial, fun _ => rfl⟩
theorem w_p4 : (vt4.phase = 4) ↔ True := ⟨fun _ => trivial, fun _ => rfl⟩
theorem w_p5 : (vt5.phase = 5) ↔ True := ⟨fun _ => trivial, fun _ => rfl⟩
theorem w_p6 : (vt6.phase = 6) ↔ True := ⟨fun _ => trivial, fun _ => rfl⟩
theorem w_e6 : (vt6.result.err = 0) ↔ True := ⟨fun _ => trivial, fun _ => rfl⟩
theorem w_q6 : (vt6.point = true) ↔ True := ⟨fun _ => trivial, fun _ => rfl⟩
theorem w_k6 : (vx6.pot.taken = 1) ↔ True := ⟨fun _ => trivial, fun _ => rfl⟩
theorem w_l6 : ((vx6.shards.length : Int) = 1) ↔ True := ⟨fun _ => trivial, fun _ => rfl⟩
theorem w_l6' : (vx6.shards.length = 1) ↔ True := ⟨fun _ => trivial, fun _ => rfl⟩
def vs1 : Shard := ⟨[vA], 1⟩
theorem w_g6 : vx6.shards[0]? = some vs1 := rfl
theorem w_n6 : ((vs1.accounts.length : Int) = 1) ↔ True := ⟨fun _ => trivial, fun _ => rfl⟩
theorem w_n6' : (vs1.accounts.length = 1) ↔ True := ⟨fun _ => trivial, fun _ => rfl⟩
theorem w_v6 : (vs1.version = 1) ↔ True := ⟨fun _ => trivial, fun _ => rfl⟩
theorem w_b1 : (vb1.phase = 6) ↔ True := ⟨fun _ => trivial, fun _ => rfl⟩
theorem w_b2 : (vb1.result.err = 2) ↔ True := ⟨fun _ => trivial, fun _ => rfl⟩
theorem w_o6 : (0 < vx6.shards.length) ↔ True := ⟨fun _ => trivial, fun _ => by decide⟩

end Go.Vm
