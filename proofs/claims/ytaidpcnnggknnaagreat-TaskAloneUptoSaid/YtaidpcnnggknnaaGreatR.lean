/- What is read of an argument is deep data: any plain type. -/
import Derived.Test.YtaidpcnnggknnaaGreatRows
import Derived.Test.YtaidpcnnggknnaaGreatVd
import Derived.WalkKit
import Derived.ProofKit
import Derived.JoinedCond
import Derived.Test.YtaidpcnnggknnaaGreatK
import Derived.ChangeShapes

set_option linter.unusedVariables false
set_option linter.unusedSimpArgs false
namespace Go.Vm
open Go Go.RowKit
open Go.Proofs.YtaidpcnnggknnaaGreat (Rows.uptoBulk Rows.uptoBulkAll)

def cellsF (W : World) : Fz := fun b o => W.cell? ⟨b, o, none⟩
theorem sat_cells (W : World) : Sat (cellsF W) W := fun _ _ _ h => h

def FitL (F : TypeId → List DV → Prop) : List TypeId → List DV → Prop
  | [], ds => ds = []
  | t :: ts, ds => ∃ a b, ds = a ++ b ∧ F t a ∧ FitL F ts b

def Fit (P : Program) (B : Nat) : Nat → TypeId → List DV → Prop
  | 0, _, _ => False
  | n + 1, t, ds => match P.underlying t with
    | some .bool => ∃ b, ds = [.sc (.bool b)]
    | some (.int k) => ∃ z, ds = [.sc (.int k z)] ∧ (Lit.int k z).wf = true
    | some .string => ∃ s, ds = [.sc (.string s)] ∧ s.size ≤ B
    | some (.slice e) => ∃ xs, ds = [.sl xs] ∧ xs.length ≤ B ∧ ∀ x ∈ xs, Fit P B n e x
    | some (.struct fs) => FitL (Fit P B n) (fs.toList.map (·.type)) ds
    | _ => False

def contig (P : Program) : Nat → List Field → Nat → Bool
  | off, [], m => off == m
  | off, f :: fs, m => f.offset == off && contig P (off + P.cellsOf f.type) fs m

def plainT (P : Program) : Nat → TypeId → Bool
  | 0, _ => true
  | n + 1, t => match P.underlying t with
    | some .bool => true
    | some (.int _) => true
    | some .string => true
    | some (.slice e) => decide (0 < P.cellsOf e) && plainT P n e
    | some (.struct fs) => contig P 0 fs.toList (P.cellsOf t) && fs.toList.all fun f => plainT P n f.type
    | _ => false

theorem mapM_opt {α β : Type} {f : α → Option β} : ∀ {l : List α} {ys : List β}, l.mapM f = some ys → ys.length = l.length ∧ ∀ (i : Nat) x, l[i]? = some x → ∃ y, ys[i]? = some y ∧ f x = some y
  | [], ys, h => by
    simp at h; subst h
    exact ⟨rfl, fun i x hx => by simp at hx⟩
  | a :: l, ys, h => by
    rw [List.mapM_cons] at h
    simp only [Option.bind_eq_bind, Option.bind_eq_some_iff, Option.pure_def, Option.some.injEq] at h
    obtain ⟨y, hy, zs, hz, rfl⟩ := h
    obtain ⟨h1, h2⟩ := mapM_opt hz
    refine ⟨by simp [h1], fun i x hx => ?_⟩
    cases i with
    | zero => simp at hx; subst hx; exact ⟨y, rfl, hy⟩
    | succ i => exact h2 i x (by simpa using hx)

theorem ex_list {α : Type} (Pr : Nat → α → Prop) : ∀ (n : Nat), (∀ i, i < n → ∃ x, Pr i x) → ∃ xs : List α, xs.length = n ∧ ∀ i x, xs[i]? = some x → Pr i x
  | 0, _ => ⟨[], rfl, fun i x h => by simp at h⟩
  | n + 1, h => by
    obtain ⟨xs, hl, hx⟩ := ex_list Pr n fun i hi => h i (by omega)
    obtain ⟨x, hxn⟩ := h n (by omega)
    refine ⟨xs ++ [x], by simp [hl], fun i y hy => ?_⟩
    by_cases hi : i < n
    · rw [List.getElem?_append_left (by omega)] at hy; exact hx i y hy
    · rw [List.getElem?_append_right (by omega)] at hy
      have : i = n := by
        have := (List.getElem?_eq_some_iff.1 hy).1
        simp at this; omega
      subst this
      simp [hl] at hy; subst hy; exact hxn

theorem bulk_mem {H : Type} {d : DataW H} {l : List (DataW H)} (h : d ∈ l) : Rows.uptoBulk d ≤ Rows.uptoBulkAll l := by
  induction l with
  | nil => cases h
  | cons x r ih =>
    simp only [Rows.uptoBulkAll]
    cases List.mem_cons.1 h with
    | inl e => subst e; omega
    | inr e => have := ih e; omega

theorem bulk_one {H : Type} (d : DataW H) : 1 ≤ Rows.uptoBulk d := by
  cases d with
  | lit l => cases l <;> simp [Rows.uptoBulk]
  | nil => simp [Rows.uptoBulk]
  | ptr d => simp [Rows.uptoBulk]
  | slice elems spare => simp [Rows.uptoBulk]
  | agg parts => simp [Rows.uptoBulk]
  | iface t d => simp [Rows.uptoBulk]
  | map entries => simp [Rows.uptoBulk]
  | held h => simp [Rows.uptoBulk]

theorem bulk_len {H : Type} (l : List (DataW H)) : l.length ≤ Rows.uptoBulkAll l := by
  induction l with
  | nil => simp [Rows.uptoBulkAll]
  | cons x r ih => have := bulk_one x; simp only [Rows.uptoBulkAll, List.length_cons]; omega

section
variable {H : Type} {enc : TypeId × Value → H} {P : Program} {W : World}

theorem struct_den {B n : Nat} (rec : ∀ (t : TypeId) (cs : List Value) (d : DataW H) (ps : List MemPlace), DataW.trod enc P W 0 (fun _ => true) true n t cs = some (d, ps) → plainT P n t = true → Rows.uptoBulk d ≤ B → ∃ ds, All2 (Den (cellsF W)) ds cs ∧ Fit P B n t ds) :
    ∀ (fs : List Field) (off m : Nat) (cs : List Value) (xs : List (DataW H × List MemPlace)), cs.length = m → contig P off fs m = true → (∀ f ∈ fs, plainT P n f.type = true) → off ≤ m →
      fs.mapM (fun f => DataW.trod enc P W 0 (fun _ => true) true n f.type ((cs.drop f.offset).take (P.cellsOf f.type))) = some xs → Rows.uptoBulkAll (xs.map (·.1)) ≤ B →
      ∃ ds, All2 (Den (cellsF W)) ds (cs.drop off) ∧ FitL (Fit P B n) (fs.map (·.type)) ds
  | [], off, m, cs, xs, hl, hc, hp, ho, hx, hb => by
    simp only [contig, beq_iff_eq] at hc
    refine ⟨[], ?_, rfl⟩
    rw [List.drop_eq_nil_iff.2 (by omega)]
    exact All2.nil
  | f :: fs, off, m, cs, xs, hl, hc, hp, ho, hx, hb => by
    simp only [contig, Bool.and_eq_true, beq_iff_eq] at hc
    obtain ⟨rfl, hc⟩ := hc
    rw [List.mapM_cons] at hx
    simp only [Option.bind_eq_bind, Option.bind_eq_some_iff, Option.pure_def, Option.some.injEq] at hx
    obtain ⟨⟨d, ps⟩, hy, zs, hz, rfl⟩ := hx
    simp only [List.map_cons, Rows.uptoBulkAll] at hb
    have hle : f.offset + P.cellsOf f.type ≤ m := by
      have : ∀ (fs : List Field) (off : Nat), contig P off fs m = true → off ≤ m := by
        intro fs
        induction fs with
        | nil => intro off h; simp only [contig, beq_iff_eq] at h; omega
        | cons g gs ih => intro off h; simp only [contig, Bool.and_eq_true, beq_iff_eq] at h; have := ih _ h.2; omega
      exact this fs _ hc
    obtain ⟨a, ha, hfa⟩ := rec f.type _ d ps hy (hp f (List.mem_cons_self)) (by omega)
    obtain ⟨b, hb2, hfb⟩ := struct_den rec fs (f.offset + P.cellsOf f.type) m cs zs hl hc (fun g hg => hp g (List.mem_cons_of_mem _ hg)) hle hz (by omega)
    refine ⟨a ++ b, ?_, a, b, rfl, hfa, hfb⟩
    have := All2.append ha hb2
    rwa [← List.drop_drop, List.take_append_drop] at this

theorem one_den {ds : DV} {c : Value} (h : Den (cellsF W) ds c) : All2 (Den (cellsF W)) [ds] [c] := All2.cons h All2.nil

theorem slice_den {B n : Nat} {e : TypeId} (hpos : 0 < P.cellsOf e) (rec : ∀ (cs : List Value) (d : DataW H) (ps : List MemPlace), DataW.trod enc P W 0 (fun _ => true) true n e cs = some (d, ps) → Rows.uptoBulk d ≤ B → ∃ ds, All2 (Den (cellsF W)) ds cs ∧ Fit P B n e ds)
    {a : Addr} {len cap : Nat} {elems : List (DataW H × List MemPlace)} (hlc : len ≤ cap) (hel : elems.length = len) (hb : Rows.uptoBulkAll (elems.map (·.1)) ≤ B)
    (hi : ∀ i, i < len → (W.cells? 0 (a.add (i * P.cellsOf e)) (P.cellsOf e)).bind (DataW.trod enc P W 0 (fun _ => true) true n e) = elems[i]?) :
    ∃ xs, Den (cellsF W) (.sl xs) (.slice (some a) len cap) ∧ xs.length ≤ B ∧ ∀ x ∈ xs, Fit P B n e x := by
  have hB : len ≤ B := by
    have := bulk_len (elems.map (·.1))
    simp only [List.length_map] at this
    omega
  cases len with
  | zero => exact ⟨[], .nil _ _, by simp, fun x hx => by cases hx⟩
  | succ l =>
    have key : ∀ i, i < l + 1 → ∃ ds : List DV, (∃ cs : List Value, cs.length = P.cellsOf e ∧ (∀ j v, cs[j]? = some v → W.cell? ((a.add (i * P.cellsOf e)).add j) = some v) ∧ All2 (Den (cellsF W)) ds cs) ∧ Fit P B n e ds := by
      intro i hil
      have h := hi i hil
      have hei : elems[i]? = some (elems[i]'(by omega)) := List.getElem?_eq_getElem (by omega)
      obtain ⟨p0, hp⟩ : ∃ p0, p0 = elems[i]'(by omega) := ⟨_, rfl⟩
      rw [hei, ← hp] at h
      rw [← hp] at hei
      obtain ⟨cs, hcs, ht⟩ := Option.bind_eq_some_iff.1 h
      obtain ⟨d, ps⟩ := p0
      have hbd : Rows.uptoBulk d ≤ B := by
        have : d ∈ elems.map (·.1) := List.mem_map.2 ⟨(d, ps), List.mem_of_getElem? hei, rfl⟩
        have := bulk_mem this
        omega
      obtain ⟨ds, h1, h2⟩ := rec cs d ps ht hbd
      refine ⟨ds, ⟨cs, ?_, ?_, h1⟩, h2⟩
      · unfold World.cells? at hcs
        rw [if_pos (Nat.zero_le _)] at hcs
        simpa using (mapM_opt hcs).1
      · intro j v hj
        unfold World.cells? at hcs
        rw [if_pos (Nat.zero_le _)] at hcs
        obtain ⟨hl, hm⟩ := mapM_opt hcs
        have hjl := (List.getElem?_eq_some_iff.1 hj).1
        obtain ⟨y, hy, hw⟩ := hm j j (by rw [List.getElem?_range (by simpa using (by omega : j < (List.range (P.cellsOf e)).length))])
        rw [hj] at hy; injection hy with hy; subst hy
        exact hw
    have hspot : a.spot = none := by
      obtain ⟨ds, ⟨cs, hl, hc, _⟩, _⟩ := key 0 (by omega)
      have h0 : cs[0]? = some (cs[0]'(by omega)) := List.getElem?_eq_getElem (by omega)
      have := hc 0 _ h0
      simp only [Nat.zero_mul, Addr.add, if_true] at this
      unfold World.cell? at this
      split at this
      · split at this
        · cases this
        · rename_i h; simpa using h
      · cases this
    obtain ⟨xs, hxl, hx⟩ := ex_list _ (l + 1) key
    obtain ⟨blk, o, sp⟩ := a
    simp only at hspot
    subst hspot
    have hadd : ∀ i j, (((⟨blk, o, none⟩ : Addr).add (i * P.cellsOf e)).add j) = ⟨blk, o + (i * P.cellsOf e + j), none⟩ := by
      intro i j
      unfold Addr.add
      by_cases h1 : i * P.cellsOf e = 0
      · by_cases h2 : j = 0
        · simp [h1, h2]
        · simp [h1, h2]
      · by_cases h2 : j = 0
        · simp [h1, h2]
        · simp [h1, h2, Nat.add_assoc]
    refine ⟨xs, ?_, by omega, ?_⟩
    · have hlen : ∀ x ∈ xs, x.length = P.cellsOf e := by
        intro x hx'
        obtain ⟨i, hi'⟩ := List.mem_iff_getElem?.1 hx'
        obtain ⟨⟨cs, hl, _, hd⟩, _⟩ := hx i x hi'
        rw [hd.1, hl]
      have hne : xs ≠ [] := fun h => by rw [h] at hxl; simp at hxl
      have hD := Den.sl (Φ := cellsF W) xs (P.cellsOf e) blk o cap (fun j i => (W.cell? ⟨blk, o + (j * P.cellsOf e + i), none⟩).getD (.bool false)) hne hlen hpos (by omega) ?_ ?_
      · rw [hxl] at hD; exact hD
      · intro j i hj hi'
        have hxj : xs[j]? = some (xs[j]'hj) := List.getElem?_eq_getElem hj
        obtain ⟨⟨cs, hl, hc, hd⟩, _⟩ := hx j _ hxj
        have hci : cs[i]? = some (cs[i]'(by omega)) := List.getElem?_eq_getElem (by omega)
        have := hc i _ hci
        rw [hadd] at this
        unfold cellsF
        rw [this]; rfl
      · intro j i x y hxj hy
        obtain ⟨⟨cs, hl, hc, hd⟩, _⟩ := hx j x hxj
        obtain ⟨v, hv, hdv⟩ := hd.get hy
        have := hc i _ hv
        rw [hadd] at this
        simp only [this, Option.getD_some]
        exact hdv
    · intro x hx'
      obtain ⟨i, hi'⟩ := List.mem_iff_getElem?.1 hx'
      exact (hx i x hi').2

theorem trod_den (B : Nat) : ∀ (n : Nat) (t : TypeId) (cs : List Value) (d : DataW H) (ps : List MemPlace), DataW.trod enc P W 0 (fun _ => true) true n t cs = some (d, ps) → plainT P n t = true → Rows.uptoBulk d ≤ B →
    ∃ ds, All2 (Den (cellsF W)) ds cs ∧ Fit P B n t ds
  | 0, t, cs, d, ps, h, hp, hB => by simp [DataW.trod] at h
  | n + 1, t, cs, d, ps, h, hp, hB => by
    unfold plainT at hp
    unfold Fit
    split at hp
    · rename_i hu
      obtain ⟨b, rfl, _⟩ := DataW.trod_bool hu h
      exact ⟨_, one_den (.sc (.bool b) rfl), ⟨b, rfl⟩⟩
    · rename_i k hu
      obtain ⟨z, rfl, _, hw⟩ := DataW.trod_int hu h
      exact ⟨_, one_den (.sc (.int k z) rfl), ⟨z, rfl, hw⟩⟩
    · rename_i hu
      obtain ⟨s, rfl, hx, _⟩ := DataW.trod_string hu h
      simp only [Prod.mk.injEq] at hx
      obtain ⟨rfl, _⟩ := hx
      refine ⟨_, one_den (.sc (.string s) rfl), ⟨s, rfl, ?_⟩⟩
      simp only [Rows.uptoBulk] at hB
      have : s.data.toList.length = s.size := by rw [Array.length_toList]; rfl
      omega
    · rename_i e hu
      simp only [Bool.and_eq_true, decide_eq_true_eq] at hp
      rcases DataW.trod_slice hu h with ⟨rfl, _⟩ | ⟨a, len, cap, elems, rest, m, hm, rfl, hx, _, hlc, _, hel, hi, _⟩
      · exact ⟨_, one_den (.nil none 0), ⟨[], rfl, by simp, fun x hx => by cases hx⟩⟩
      · obtain rfl : n = m := by omega
        simp only [Prod.mk.injEq] at hx
        obtain ⟨rfl, _⟩ := hx
        simp only [Rows.uptoBulk] at hB
        obtain ⟨xs, h1, h2, h3⟩ := slice_den hp.1 (fun cs d ps h hb => trod_den B n e cs d ps h hp.2 hb) hlc hel (by omega) hi
        exact ⟨_, one_den h1, ⟨xs, rfl, h2, h3⟩⟩
    · rename_i fs hu
      simp only [Bool.and_eq_true, List.all_eq_true] at hp
      unfold DataW.trod at h
      rw [hu] at h
      simp only at h
      split at h
      · rename_i hcl
        obtain ⟨xs, hxs, hx⟩ := Option.map_eq_some_iff.1 h
        simp only [Prod.mk.injEq] at hx
        obtain ⟨rfl, _⟩ := hx
        simp only [Rows.uptoBulk] at hB
        obtain ⟨ds, h1, h2⟩ := struct_den (fun t cs d ps h hp hb => trod_den B n t cs d ps h hp hb) fs.toList 0 _ cs xs hcl hp.1 hp.2 (Nat.zero_le _) hxs (by omega)
        exact ⟨ds, by simpa using h1, h2⟩
      · cases h
    · cases hp
end

end Go.Vm

/- The arguments' types: what is read of them is a request, a sight, numbers. -/
set_option linter.unusedVariables false
set_option linter.unusedSimpArgs false
namespace Go.Vm
open Go Go.RowKit Go.Proofs
open Go.Proofs.YtaidpcnnggknnaaGreat (Rows.uptoBulk Rows.uptoBulkAll)

theorem u3 : Tryz.prog.underlying 3 = some (.int .i64) := Tryz.underlying3
theorem u9 : Tryz.prog.underlying 9 = some .string := Tryz.underlying9
theorem c3 : Tryz.prog.cellsOf 3 = 1 := by kernel_rfl
theorem c9 : Tryz.prog.cellsOf 9 = 1 := by kernel_rfl
theorem c23 : Tryz.prog.cellsOf 26 = 5 := by kernel_rfl
theorem c42 : Tryz.prog.cellsOf 31 = 6 := by kernel_rfl
theorem c36 : Tryz.prog.cellsOf 32 = 1 := by kernel_rfl
theorem c38 : Tryz.prog.cellsOf 65 = 3 := by kernel_rfl
theorem c69 : Tryz.prog.cellsOf 24 = 1 := by kernel_rfl
theorem c71 : Tryz.prog.cellsOf 63 = 2 := by kernel_rfl
theorem c30 : Tryz.prog.cellsOf 88 = 1 := by kernel_rfl
theorem c26 : Tryz.prog.cellsOf 23 = 8 := by kernel_rfl
theorem c27 : Tryz.prog.cellsOf 85 = 1 := by kernel_rfl
theorem c29 : Tryz.prog.cellsOf 87 = 2 := by kernel_rfl
theorem c32 : Tryz.prog.cellsOf 90 = 12 := by kernel_rfl
theorem plain3 (n : Nat) : plainT Tryz.prog n 3 = true := by cases n <;> simp [plainT, u3]
theorem plain9 (n : Nat) : plainT Tryz.prog n 9 = true := by cases n <;> simp [plainT, u9]
theorem plain42 (n : Nat) : plainT Tryz.prog n 31 = true := by
  cases n with
  | zero => rfl
  | succ n => simp [plainT, Tryz.underlying31, contig, plain3, plain9, c3, c9, c42]
theorem plain36 (n : Nat) : plainT Tryz.prog n 32 = true := by
  cases n with
  | zero => rfl
  | succ n => simp [plainT, Tryz.underlying32, plain42, c42]
theorem plain38 (n : Nat) : plainT Tryz.prog n 65 = true := by
  cases n with
  | zero => rfl
  | succ n => simp [plainT, Tryz.underlying65, contig, plain3, plain36, c3, c36, c38]
theorem plain69 (n : Nat) : plainT Tryz.prog n 24 = true := by
  cases n with
  | zero => rfl
  | succ n => simp [plainT, Tryz.underlying24, plain38, c38]
theorem plain71 (n : Nat) : plainT Tryz.prog n 63 = true := by
  cases n with
  | zero => rfl
  | succ n => simp [plainT, Tryz.underlying63, contig, plain3, plain69, c3, c69, c71]
theorem plain30 (n : Nat) : plainT Tryz.prog n 88 = true := by
  cases n with
  | zero => rfl
  | succ n => simp [plainT, Tryz.underlying88, plain71, c71]
theorem plain26 (n : Nat) : plainT Tryz.prog n 23 = true := by
  cases n with
  | zero => rfl
  | succ n => simp [plainT, Tryz.underlying23, contig, plain3, c3, c26]
theorem plain27 (n : Nat) : plainT Tryz.prog n 85 = true := by
  cases n with
  | zero => rfl
  | succ n => simp [plainT, Tryz.underlying85, plain3, c3]
theorem plain29 (n : Nat) : plainT Tryz.prog n 87 = true := by
  cases n with
  | zero => rfl
  | succ n => simp [plainT, Tryz.underlying87, contig, plain3, c3, c29]
theorem plain23 (n : Nat) : plainT Tryz.prog n 26 = true := by
  cases n with
  | zero => rfl
  | succ n => simp [plainT, Tryz.underlying26, contig, plain3, plain9, c3, c9, c23]
theorem plain32 (n : Nat) : plainT Tryz.prog n 90 = true := by
  cases n with
  | zero => rfl
  | succ n => simp [plainT, Tryz.underlying90, contig, plain26, plain27, plain29, plain30, c26, c27, c29, c30, c32]

theorem fit3 {B n : Nat} {ds : List DV} (h : Fit Tryz.prog B n 3 ds) : ∃ z, ds = [.sc (.int .i64 z)] := by
  cases n with
  | zero => cases h
  | succ n => simp only [Fit, u3] at h; exact ⟨_, h.choose_spec.1⟩
theorem fit3w {B n : Nat} {ds : List DV} (h : Fit Tryz.prog B n 3 ds) : ∃ z, ds = [.sc (.int .i64 z)] ∧ (Lit.int .i64 z).wf = true := by
  cases n with
  | zero => cases h
  | succ n => simp only [Fit, u3] at h; exact h
theorem fit9 {B n : Nat} {ds : List DV} (h : Fit Tryz.prog B n 9 ds) : ∃ s, ds = [.sc (.string s)] ∧ s.size ≤ B := by
  cases n with
  | zero => cases h
  | succ n => simp only [Fit, u9] at h; exact h

theorem fit_list {α : Type} {c : α → List DV} {p : α → Prop} : ∀ {xs : List (List DV)}, (∀ x ∈ xs, ∃ a, x = c a ∧ p a) → ∃ l : List α, xs = l.map c ∧ ∀ a ∈ l, p a
  | [], _ => ⟨[], rfl, fun a h => by cases h⟩
  | x :: xs, h => by
    obtain ⟨a, rfl, ha⟩ := h x (List.mem_cons_self)
    obtain ⟨l, rfl, hl⟩ := fit_list (xs := xs) fun y hy => h y (List.mem_cons_of_mem _ hy)
    exact ⟨a :: l, rfl, fun b hb => by
      rcases List.mem_cons.1 hb with rfl | hb
      · exact ha
      · exact hl b hb⟩

theorem fitInt {B n : Nat} {ds : List DV} (h : Fit Tryz.prog B n 3 ds) : ∃ z : Int, ds = [.sc (.int .i64 z)] ∧ True := by
  obtain ⟨z, rfl⟩ := fit3 h
  exact ⟨z, rfl, trivial⟩
theorem fitTx {B n : Nat} {ds : List DV} (h : Fit Tryz.prog B n 31 ds) : ∃ x : Tx, ds = x.c ∧ x.data.size ≤ B := by
  cases n with
  | zero => cases h
  | succ n =>
    simp only [Fit, Tryz.underlying31, List.map_cons, List.map_nil, FitL] at h
    obtain ⟨a1, _, rfl, h1, a2, _, rfl, h2, a3, _, rfl, h3, a4, _, rfl, h4, a5, _, rfl, h5, a6, _, rfl, h6, rfl⟩ := h
    obtain ⟨z1, rfl⟩ := fit3 h1
    obtain ⟨z2, rfl⟩ := fit3 h2
    obtain ⟨z3, rfl⟩ := fit3 h3
    obtain ⟨z4, rfl⟩ := fit3 h4
    obtain ⟨z5, rfl⟩ := fit3 h5
    obtain ⟨s, rfl, hs⟩ := fit9 h6
    exact ⟨⟨z1, z2, z3, z4, z5, s⟩, rfl, hs⟩

theorem fitTxs {B n : Nat} {ds : List DV} (h : Fit Tryz.prog B n 32 ds) : ∃ l : List Tx, ds = [.sl (l.map Tx.c)] ∧ l.length ≤ B ∧ ∀ a ∈ l, a.data.size ≤ B := by
  cases n with
  | zero => cases h
  | succ n =>
    simp only [Fit, Tryz.underlying32] at h
    obtain ⟨xs, rfl, hl, hx⟩ := h
    obtain ⟨l, rfl, hp⟩ := fit_list (p := fun a : Tx => a.data.size ≤ B) fun x hx' => fitTx (hx x hx')
    exact ⟨l, rfl, by simpa using hl, hp⟩

theorem fitAcc {B n : Nat} {ds : List DV} (h : Fit Tryz.prog B n 65 ds) : ∃ x : Acc, ds = x.c ∧ (x.txs.length ≤ B ∧ wf64 x.sender = true) := by
  cases n with
  | zero => cases h
  | succ n =>
    simp only [Fit, Tryz.underlying65, List.map_cons, List.map_nil, FitL] at h
    obtain ⟨a1, _, rfl, h1, a2, _, rfl, h2, a3, _, rfl, h3, rfl⟩ := h
    obtain ⟨z1, rfl, hw⟩ := fit3w h1
    obtain ⟨z2, rfl⟩ := fit3 h2
    obtain ⟨l, rfl, hl, _⟩ := fitTxs h3
    exact ⟨⟨z1, z2, l⟩, rfl, hl, hw⟩

theorem fitAccs {B n : Nat} {ds : List DV} (h : Fit Tryz.prog B n 24 ds) : ∃ l : List Acc, ds = [.sl (l.map Acc.c)] ∧ l.length ≤ B ∧ ∀ a ∈ l, (a.txs.length ≤ B ∧ wf64 a.sender = true) := by
  cases n with
  | zero => cases h
  | succ n =>
    simp only [Fit, Tryz.underlying24] at h
    obtain ⟨xs, rfl, hl, hx⟩ := h
    obtain ⟨l, rfl, hp⟩ := fit_list (p := fun a : Acc => (a.txs.length ≤ B ∧ wf64 a.sender = true)) fun x hx' => fitAcc (hx x hx')
    exact ⟨l, rfl, by simpa using hl, hp⟩

theorem fitShard {B n : Nat} {ds : List DV} (h : Fit Tryz.prog B n 63 ds) : ∃ x : Shard, ds = x.c ∧ (x.accounts.length ≤ B ∧ ∀ a ∈ x.accounts, a.txs.length ≤ B ∧ wf64 a.sender = true) := by
  cases n with
  | zero => cases h
  | succ n =>
    simp only [Fit, Tryz.underlying63, List.map_cons, List.map_nil, FitL] at h
    obtain ⟨a1, _, rfl, h1, a2, _, rfl, h2, rfl⟩ := h
    obtain ⟨l, rfl, hl, hp⟩ := fitAccs h1
    obtain ⟨z2, rfl⟩ := fit3 h2
    exact ⟨⟨l, z2⟩, rfl, hl, hp⟩

theorem fitShards {B n : Nat} {ds : List DV} (h : Fit Tryz.prog B n 88 ds) : ∃ l : List Shard, ds = [.sl (l.map Shard.c)] ∧ l.length ≤ B ∧ ∀ a ∈ l, (a.accounts.length ≤ B ∧ ∀ b ∈ a.accounts, b.txs.length ≤ B ∧ wf64 b.sender = true) := by
  cases n with
  | zero => cases h
  | succ n =>
    simp only [Fit, Tryz.underlying88] at h
    obtain ⟨xs, rfl, hl, hx⟩ := h
    obtain ⟨l, rfl, hp⟩ := fit_list (p := fun a : Shard => (a.accounts.length ≤ B ∧ ∀ b ∈ a.accounts, b.txs.length ≤ B ∧ wf64 b.sender = true)) fun x hx' => fitShard (hx x hx')
    exact ⟨l, rfl, by simpa using hl, hp⟩

theorem fitInts {B n : Nat} {ds : List DV} (h : Fit Tryz.prog B n 85 ds) : ∃ l : List Int, ds = [.sl (l.map fun z => [.sc (.int .i64 z)])] ∧ l.length ≤ B := by
  cases n with
  | zero => cases h
  | succ n =>
    simp only [Fit, Tryz.underlying85] at h
    obtain ⟨xs, rfl, hl, hx⟩ := h
    obtain ⟨l, rfl, _⟩ := fit_list (c := fun z : Int => [DV.sc (.int .i64 z)]) (p := fun _ => True) fun x hx' => fitInt (hx x hx')
    exact ⟨l, rfl, by simpa using hl⟩

theorem fitConfig {B n : Nat} {ds : List DV} (h : Fit Tryz.prog B n 23 ds) : ∃ x : Config, ds = x.c := by
  cases n with
  | zero => cases h
  | succ n =>
    simp only [Fit, Tryz.underlying23, List.map_cons, List.map_nil, FitL] at h
    obtain ⟨a1, _, rfl, h1, a2, _, rfl, h2, a3, _, rfl, h3, a4, _, rfl, h4, a5, _, rfl, h5, a6, _, rfl, h6, a7, _, rfl, h7, a8, _, rfl, h8, rfl⟩ := h
    obtain ⟨z1, rfl⟩ := fit3 h1
    obtain ⟨z2, rfl⟩ := fit3 h2
    obtain ⟨z3, rfl⟩ := fit3 h3
    obtain ⟨z4, rfl⟩ := fit3 h4
    obtain ⟨z5, rfl⟩ := fit3 h5
    obtain ⟨z6, rfl⟩ := fit3 h6
    obtain ⟨z7, rfl⟩ := fit3 h7
    obtain ⟨z8, rfl⟩ := fit3 h8
    exact ⟨⟨z1, z2, z3, z4, z5, z6, z7, z8⟩, rfl⟩

theorem fitPot {B n : Nat} {ds : List DV} (h : Fit Tryz.prog B n 87 ds) : ∃ x : Pot, ds = x.c := by
  cases n with
  | zero => cases h
  | succ n =>
    simp only [Fit, Tryz.underlying87, List.map_cons, List.map_nil, FitL] at h
    obtain ⟨a1, _, rfl, h1, a2, _, rfl, h2, rfl⟩ := h
    obtain ⟨z1, rfl⟩ := fit3 h1
    obtain ⟨z2, rfl⟩ := fit3 h2
    exact ⟨⟨z1, z2⟩, rfl⟩

theorem fitOp {B n : Nat} {ds : List DV} (h : Fit Tryz.prog B n 26 ds) : ∃ x : Op, ds = x.c ∧ (x.data.size ≤ B ∧ wf64 x.sender = true) := by
  cases n with
  | zero => cases h
  | succ n =>
    simp only [Fit, Tryz.underlying26, List.map_cons, List.map_nil, FitL] at h
    obtain ⟨a1, _, rfl, h1, a2, _, rfl, h2, a3, _, rfl, h3, a4, _, rfl, h4, a5, _, rfl, h5, rfl⟩ := h
    obtain ⟨z1, rfl⟩ := fit3 h1
    obtain ⟨z2, rfl, hw⟩ := fit3w h2
    obtain ⟨z3, rfl⟩ := fit3 h3
    obtain ⟨z4, rfl⟩ := fit3 h4
    obtain ⟨s, rfl, hs⟩ := fit9 h5
    exact ⟨⟨z1, z2, z3, z4, s⟩, rfl, hs, hw⟩

def Bnd (B : Nat) (x : Sight) : Prop := x.locks.length ≤ B ∧ x.shards.length ≤ B ∧ ∀ s ∈ x.shards, s.accounts.length ≤ B ∧ ∀ a ∈ s.accounts, a.txs.length ≤ B ∧ wf64 a.sender = true
theorem fitSight {B n : Nat} {ds : List DV} (h : Fit Tryz.prog B n 90 ds) : ∃ x : Sight, ds = x.c ∧ Bnd B x := by
  cases n with
  | zero => cases h
  | succ n =>
    simp only [Fit, Tryz.underlying90, List.map_cons, List.map_nil, FitL] at h
    obtain ⟨a1, _, rfl, h1, a2, _, rfl, h2, a3, _, rfl, h3, a4, _, rfl, h4, rfl⟩ := h
    obtain ⟨c, rfl⟩ := fitConfig h1
    obtain ⟨k, rfl, hk⟩ := fitInts h2
    obtain ⟨p, rfl⟩ := fitPot h3
    obtain ⟨l, rfl, hl, hp⟩ := fitShards h4
    exact ⟨⟨c, k, p, l⟩, rfl, hk, hl, hp⟩

theorem agg_of {v : Value} {ds : List DV} {Φ : Fz} (h : All2 (Den Φ) ds v.cells.toList) (hl : ds.length ≠ 1) : DAR Φ (.agg ds) v := by
  have h1 := h.1
  cases v with
  | agg cs => exact ⟨cs.toList, by simp, h⟩
  | _ => simp [Value.cells] at h1; omega

section
variable {H : Type} {enc : TypeId × Value → H} {W : World} {v : Value} {d : DataW H} {ps : List MemPlace} {B : Nat}
theorem argOp (h : DataW.Trod enc Tryz.prog W 0 (fun _ => true) true 26 v d ps) (hB : Rows.uptoBulk d ≤ B) : ∃ x : Op, DAR (cellsF W) ((eT ceOp).enc x) v ∧ (x.data.size ≤ B ∧ wf64 x.sender = true) := by
  obtain ⟨n, h⟩ := h
  obtain ⟨ds, h1, h2⟩ := trod_den B n 26 _ d ps h (plain23 n) hB
  obtain ⟨x, rfl, hx⟩ := fitOp h2
  exact ⟨x, agg_of h1 (by simp [Op.c]), hx⟩
theorem argSight (h : DataW.Trod enc Tryz.prog W 0 (fun _ => true) true 90 v d ps) (hB : Rows.uptoBulk d ≤ B) : ∃ x : Sight, DAR (cellsF W) ((eT ceSight).enc x) v ∧ Bnd B x := by
  obtain ⟨n, h⟩ := h
  obtain ⟨ds, h1, h2⟩ := trod_den B n 90 _ d ps h (plain32 n) hB
  obtain ⟨x, rfl, hx⟩ := fitSight h2
  exact ⟨x, agg_of h1 (by simp [Sight.c]), hx⟩
theorem okInt {P : Program} {f : Func} {args : Array Value} {base i : Nat} (hu : P.underlying 3 = some (.int .i64)) (hval : ∀ (j : Nat) t v, f.params[j]? = some t → args[j]? = some v → Value.okWide P W .any base t v) (hp : f.params[i]? = some 3) (ha : args[i]? = some v) : ∃ k, v = .int .i64 k :=
  Go.WideShapes.okWide_int hu (hval i 3 v hp ha)
theorem argInt (hk : ∃ k, v = .int .i64 k) (h : DataW.Trod enc Tryz.prog W 0 (fun _ => true) true 3 v d ps) : ∃ x : Int, DAR (cellsF W) (eInt.enc x) v ∧ wf64 x = true := by
  obtain ⟨n, hn⟩ := h
  obtain ⟨ds, h1, h2⟩ := trod_den (Rows.uptoBulk d) n 3 _ d ps hn (plain3 n) (Nat.le_refl _)
  obtain ⟨z, rfl, hz⟩ := fit3w h2
  obtain ⟨k, rfl⟩ := hk
  exact ⟨z, h1.head, hz⟩
theorem argConfig (h : DataW.Trod enc Tryz.prog W 0 (fun _ => true) true 23 v d ps) : ∃ x : Config, DAR (cellsF W) ((eT ceConfig).enc x) v := by
  obtain ⟨n, h⟩ := h
  obtain ⟨ds, h1, h2⟩ := trod_den (Rows.uptoBulk d) n 23 _ d ps h (plain26 n) (Nat.le_refl _)
  obtain ⟨x, rfl⟩ := fitConfig h2
  exact ⟨x, agg_of h1 (by simp [Config.c])⟩
theorem okSlice {P : Program} {f : Func} {args : Array Value} {base i t e : Nat} (hu : P.underlying t = some (.slice e)) (hval : ∀ (j : Nat) t v, f.params[j]? = some t → args[j]? = some v → Value.okWide P W .any base t v) (hp : f.params[i]? = some t) (ha : args[i]? = some v) : ∃ a len cap, v = .slice a len cap :=
  Go.WideShapes.okWide_slice hu (hval i t v hp ha)
theorem argAccs (hk : ∃ a len cap, v = .slice a len cap) (h : DataW.Trod enc Tryz.prog W 0 (fun _ => true) true 24 v d ps) (hB : Rows.uptoBulk d ≤ B) : ∃ x : List Acc, DAR (cellsF W) ((eL ceAcc).enc x) v ∧ (x.length ≤ B ∧ ∀ a ∈ x, (a.txs.length ≤ B ∧ wf64 a.sender = true)) := by
  obtain ⟨n, hn⟩ := h
  obtain ⟨ds, h1, h2⟩ := trod_den B n 24 _ d ps hn (plain69 n) hB
  obtain ⟨l, rfl, hl, hp⟩ := fitAccs h2
  obtain ⟨a, len, cap, rfl⟩ := hk
  exact ⟨l, h1.head, hl, hp⟩
end

end Go.Vm
