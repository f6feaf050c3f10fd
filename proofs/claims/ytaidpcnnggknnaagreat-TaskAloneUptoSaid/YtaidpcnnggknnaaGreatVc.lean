/- Regions that draw their order: every order gives what the order of the text gives. -/
import Derived.Test.YtaidpcnnggknnaaGreatVb
import Derived.LoopN
import Derived.Scope
import Derived.Laws.StructEq
import Derived.KernelRfl

set_option linter.unusedVariables false
set_option linter.unusedSimpArgs false
namespace Go.Vm
open Go Go.RowKit

def Tr1 (C : Cfg) (ops : Array Oper) (fl : List Bool) (E : Nat → Env) (O : Nat → Objs) (v : Nat → TV) (i : Nat) (o : Oper) : Prop :=
  ∃ g, guardOf ops (E i) o = some g ∧ (g = true → evOp C ((fl.drop i).headD false) o (E i) (O i) = some (v i, O (i + 1))) ∧ (g = false → v i = .tup [] ∧ O (i + 1) = O i) ∧ E (i + 1) = putE (E i) o.dst (v i)

theorem trace_of {C : Cfg} {ops : Array Oper} {fl : List Bool} : ∀ (os : List Oper) (i : Nat) (env : Env) (objs : Objs) (env' : Env) (objs' : Objs), os = ops.toList.drop i → evOps C ops (fl.drop i) os env objs = some (env', objs') →
    ∃ E O v, E i = env ∧ O i = objs ∧ E (i + os.length) = env' ∧ O (i + os.length) = objs' ∧ ∀ j o, i ≤ j → ops[j]? = some o → Tr1 C ops fl E O v j o
  | [], i, env, objs, env', objs', ho, h => by
    simp only [evOps, Option.some.injEq, Prod.mk.injEq] at h
    obtain ⟨rfl, rfl⟩ := h
    refine ⟨fun _ => env, fun _ => objs, fun _ => .unk, rfl, rfl, rfl, rfl, fun j o hj hoj => ?_⟩
    have h1 := congrArg List.length ho
    have h2 := (Array.getElem?_eq_some_iff.1 hoj).1
    simp at h1
    omega
  | o :: os, i, env, objs, env', objs', ho, h => by
    have hoi : ops[i]? = some o := by
      have : (ops.toList.drop i)[0]? = some o := by rw [← ho]; rfl
      simpa using this
    have hos : os = ops.toList.drop (i + 1) := by
      have := congrArg List.tail ho
      simpa using this
    unfold evOps at h
    split at h
    case h_2 => cases h
    case h_1 env1 objs1 h1 =>
    rw [List.tail_drop] at h
    obtain ⟨E, O, v, hE, hO, hE', hO', hst⟩ := trace_of os (i + 1) env1 objs1 env' objs' hos h
    unfold evOne at h1
    have key : ∃ x g, guardOf ops env o = some g ∧ (g = true → evOp C ((fl.drop i).headD false) o env objs = some (x, objs1)) ∧ (g = false → x = .tup [] ∧ objs1 = objs) ∧ env1 = putE env o.dst x := by
      split at h1
      case h_1 hg =>
        split at h1
        case h_2 => cases h1
        case h_1 x objs2 hx =>
        simp only [Option.some.injEq, Prod.mk.injEq] at h1
        obtain ⟨rfl, rfl⟩ := h1
        exact ⟨x, true, hg, fun _ => hx, by simp, rfl⟩
      case h_2 hg =>
        simp only [Option.some.injEq, Prod.mk.injEq] at h1
        obtain ⟨rfl, rfl⟩ := h1
        exact ⟨.tup [], false, hg, by simp, fun _ => ⟨rfl, rfl⟩, rfl⟩
      case h_3 => cases h1
    obtain ⟨x, g, hg1, hg2, hg3, hg4⟩ := key
    have ne : ∀ {j : Nat}, i + 1 ≤ j → j ≠ i := fun h => by omega
    refine ⟨fun k => if k = i then env else E k, fun k => if k = i then objs else O k, fun k => if k = i then x else v k, by simp, by simp, ?_, ?_, fun j o' hj hoj => ?_⟩
    · simp only [List.length_cons]
      rw [if_neg (by omega)]
      have : i + 1 + os.length = i + (os.length + 1) := by omega
      rw [← this]; exact hE'
    · simp only [List.length_cons]
      rw [if_neg (by omega)]
      have : i + 1 + os.length = i + (os.length + 1) := by omega
      rw [← this]; exact hO'
    · by_cases hji : j = i
      · subst hji
        rw [hoi] at hoj; injection hoj with hoj; subst hoj
        unfold Tr1
        simp only [if_true, if_neg (ne (Nat.le_refl (j + 1)))]
        rw [hE, hO]
        exact ⟨g, hg1, hg2, hg3, hg4⟩
      · have h2 := hst j o' (by omega) hoj
        unfold Tr1 at h2 ⊢
        simp only [if_neg hji, if_neg (show j + 1 ≠ i by omega)]
        exact h2

theorem opAt_some {ops : Array Oper} {i : Nat} {o : Oper} {f : Oper → Bool} (h : ops[i]? = some o) : opAt ops i f = f o := by unfold opAt; rw [h]

theorem tmpsOk_spec {ops : Array Oper} (h : tmpsOk ops = true) {j : Nat} {oj : Oper} (hj : ops[j]? = some oj) :
    (∀ e ∈ oj.after, Region.binds .any e = true → e.on < j) ∧ (∀ i oi t, ops[i]? = some oi → oi.dst = some t → i ≠ j → oj.dst ≠ some t ∧ (t ∈ oj.looksAt ops → (i < j ∧ dep ops 1 j i = true) ∨ (j < i ∧ dep ops 1 i j = true))) := by
  have lt : ∀ {k o}, ops[k]? = some o → k ∈ List.range ops.size := fun hk => List.mem_range.2 (Array.getElem?_eq_some_iff.1 hk).1
  unfold tmpsOk at h
  have h1 := List.all_eq_true.1 h j (lt hj)
  rw [opAt_some hj, Bool.and_eq_true] at h1
  obtain ⟨h1, h2⟩ := h1
  refine ⟨fun e he hb => ?_, fun i oi t hi ht hne => ?_⟩
  · have := List.all_eq_true.1 h1 e (by simpa using he)
    simpa [hb] using this
  · have h3 := List.all_eq_true.1 h2 i (lt hi)
    rw [opAt_some hi] at h3
    simp only [ht, Bool.or_eq_true, beq_iff_eq, Bool.and_eq_true, bne_iff_ne, ne_eq, Bool.not_eq_true', List.contains_eq_mem, decide_eq_false_iff_not, decide_eq_true_eq] at h3
    rcases h3 with h3 | ⟨h3, h4⟩
    · exact absurd h3 hne
    · refine ⟨h3, fun hm => ?_⟩
      rcases h4 with (h4 | h4) | h4
      · exact absurd hm h4
      · exact .inl h4
      · exact .inr h4

theorem dep_one {ops : Array Oper} {i j : Nat} (h : dep ops 1 j i = true) : ∃ o, ops[j]? = some o ∧ ∃ e ∈ o.after, Region.binds .any e = true ∧ e.on = i := by
  unfold dep at h
  split at h
  · rename_i o ho
    obtain ⟨e, he, hb⟩ := List.any_eq_true.1 h
    simp only [dep, Bool.and_eq_true, Bool.or_eq_true, beq_iff_eq, Bool.false_eq_true, or_false] at hb
    exact ⟨o, ho, e, by simpa using he, hb.1, hb.2⟩
  · cases h

theorem dep_listed {ops : Array Oper} {L : Nat → Prop} (hcl : ∀ k o, ops[k]? = some o → L k → ∀ e ∈ o.after, Region.binds .any e = true → L e.on) :
    ∀ (n j i : Nat), (∀ o, ops[j]? = some o → ∀ e ∈ o.after, Region.binds .any e = true → L e.on) → dep ops n j i = true → L i
  | 0, j, i, _, h => by simp [dep] at h
  | n + 1, j, i, hj, h => by
    unfold dep at h
    split at h
    · rename_i o ho
      obtain ⟨e, he, hb⟩ := List.any_eq_true.1 h
      simp only [Bool.and_eq_true, Bool.or_eq_true, beq_iff_eq] at hb
      have hL := hj o ho e (by simpa using he) hb.1
      rcases hb.2 with rfl | hd
      · exact hL
      · exact dep_listed hcl n e.on i (fun o' ho' => hcl _ _ ho' hL) hd
    · cases h

theorem pinL_spec {fl : List Bool} {ps : List Nat} {ops : Array Oper} {k : Nat} {ok : Oper} (hk : ops[k]? = some ok) (h : pinL fl ps ops k = true) : (fl.drop k).headD false = true ∧ ((∃ u t, ok.op = .load u (.tmp t) ∧ fpT fl ps ops 20 k t = true) ∨ ∃ t len qs, ok.op = .buildSlice t len qs) := by
  unfold pinL at h
  rw [hk, Bool.and_eq_true] at h
  refine ⟨h.1, ?_⟩
  have h2 := h.2
  split at h2
  · rename_i o ho
    injection ho with ho; subst ho
    split at h2
    · rename_i u t hop
      exact .inl ⟨u, t, hop, h2⟩
    · rename_i t len qs hop
      exact .inr ⟨t, len, qs, hop⟩
    · cases h2
  · cases h2

theorem ordOk_spec {fl : List Bool} {ps : List Nat} {ops : Array Oper} {i : Nat} {oi : Oper} (hi : ops[i]? = some oi) (h : ordOk fl ps ops i = true) : blindOp oi.op = false ∧ ∀ k ok, ops[k]? = some ok → blindOp ok.op = false → ¬ (1000000 + i ∈ ps ∧ k = i + 1) →
    pinL fl ps ops k = true ∨ ((i < k → dep ops ops.size k i = true) ∧ (k < i → dep ops ops.size i k = true ∨ allocOp oi.op = true)) := by
  unfold ordOk at h
  rw [Bool.and_eq_true, opAt_some hi] at h
  refine ⟨by simpa using h.1, fun k ok hk hb hne => ?_⟩
  have h1 := List.all_eq_true.1 h.2 k (List.mem_range.2 (Array.getElem?_eq_some_iff.1 hk).1)
  have hx : (ps.contains (1000000 + i) && k == i + 1) = false := by
    cases hc : (ps.contains (1000000 + i) && k == i + 1) with
    | false => rfl
    | true =>
      rw [Bool.and_eq_true] at hc
      exact absurd ⟨by simpa using hc.1, by simpa using hc.2⟩ hne
  simp only [opAt_some hk, opAt_some hi, hb, Bool.false_or, hx, Bool.or_false] at h1
  cases hp : pinL fl ps ops k with
  | true => exact .inl rfl
  | false =>
    rw [hp] at h1
    refine .inr ⟨fun hik => by rw [if_pos hik] at h1; simpa using h1, fun hki => ?_⟩
    rw [if_neg (by omega), if_pos hki] at h1
    simpa using h1

theorem ordOk_hard {fl : List Bool} {ps : List Nat} {ops : Array Oper} {i k : Nat} {oi ok : Oper} (hi : ops[i]? = some oi) (h : ordOk fl ps ops i = true) (hk : ops[k]? = some ok) (hb : blindOp ok.op = false) (hs : (fl.drop k).headD false = false) (hne : ¬ (1000000 + i ∈ ps ∧ k = i + 1)) :
    (i < k → dep ops ops.size k i = true) ∧ (k < i → dep ops ops.size i k = true ∨ allocOp oi.op = true) := by
  rcases (ordOk_spec hi h).2 k ok hk hb hne with hp | h
  · rw [(pinL_spec hk hp).1] at hs; cases hs
  · exact h

theorem pairOk_spec {C : Cfg} {fl : List Bool} {ops : Array Oper} {p : Nat} (h : pairOk C fl ops p = true) :
    ∃ o q t u, ops[p]? = some o ∧ ops[p + 1]? = some q ∧ o.op = .alloc t ∧ q.op = .alloc u ∧ o.guard = none ∧ q.guard = none ∧ (∀ e, e ∉ o.after) ∧ (∀ e, e ∉ q.after) ∧ ownsOf C o.dst = [] ∧ ownsOf C q.dst = [] ∧
      (fl.drop p).headD false = false ∧ (fl.drop (p + 1)).headD false = false ∧ (∀ k, k < p → (fl.drop k).headD false = true) ∧ ∀ k, k < ops.size → p + 1 < k → dep ops ops.size k p = true := by
  unfold pairOk at h
  rw [Bool.and_eq_true, Bool.and_eq_true] at h
  obtain ⟨⟨h1, h2⟩, h3⟩ := h
  split at h1
  case h_2 => cases h1
  case h_1 o q ho hq =>
  simp only [Bool.and_eq_true] at h1
  obtain ⟨⟨⟨⟨⟨⟨⟨⟨⟨a1, a2⟩, a3⟩, a4⟩, a5⟩, a6⟩, a7⟩, a8⟩, a9⟩, a10⟩ := h1
  have al : ∀ x : Op, allocOp x = true → ∃ t, x = .alloc t := fun x hx => by
    cases x <;> simp [allocOp] at hx
    exact ⟨_, rfl⟩
  obtain ⟨t, ht⟩ := al _ a1
  obtain ⟨u, hu⟩ := al _ a2
  have em : ∀ x : Oper, x.after.toList.isEmpty = true → ∀ e, e ∉ x.after := fun x hx e he => by
    have : x.after.toList = [] := by simpa using hx
    have he' : e ∈ x.after.toList := by simpa using he
    rw [this] at he'; cases he'
  refine ⟨o, q, t, u, ho, hq, ht, hu, by simpa using a3, by simpa using a4, em o a5, em q a6, by simpa using a7, by simpa using a8, by simpa using a9, by simpa using a10, fun k hk => ?_, fun k hk hpk => ?_⟩
  · exact List.all_eq_true.1 h2 k (List.mem_range.2 hk)
  · have := List.all_eq_true.1 h3 k (List.mem_range.2 hk)
    simp only [Bool.or_eq_true, decide_eq_true_eq] at this
    rcases this with h | h
    · omega
    · exact h

theorem load_fp {C : Cfg} {o : Oper} {u t : Nat} {env : Env} {cs : List DV} (ho : o.op = .load u (.tmp t)) (he : env[t]? = some (.v (.one (.fp cs)))) {v : TV} {objs objs' : Objs} (h : evOp C true o env objs = some (v, objs')) (objs1 : Objs) : evOp C true o env objs1 = some (v, objs1) := by
  have hb : ∀ ob, evLoud C true o env ob = evLoad (C.ti u) (some (.fp cs)) ob := fun ob => by
    unfold evLoud
    simp [ho, rd1, rd, he]
  have hbl : evBlind C o env = none := by unfold evBlind; simp [ho]
  unfold evOp at h ⊢
  simp only [hbl, hb] at h ⊢
  unfold evLoad at h ⊢
  split at h
  case h_2 => cases h
  case h_1 ti c hti hc =>
  injection hc with hc; subst hc
  simp only [loadC] at h ⊢
  split at h
  case h_2 => cases h
  case h_1 cs1 hcs1 =>
  split at h
  case h_2 => cases h
  case h_1 v1 hv1 =>
  simp only [Option.some.injEq, Prod.mk.injEq] at h
  obtain ⟨rfl, rfl⟩ := h
  simp only [hcs1, hv1]

theorem toDV_same {c : CV} (hc : isOwn c = false) (o1 o2 : Objs) : toDV o1 c = toDV o2 c ∧ frz1 o1 c = o1 := by
  cases c <;> simp [isOwn] at hc <;> exact ⟨rfl, rfl⟩

theorem toDVs_same : ∀ {cs : List CV} (_ : cs.any isOwn = false) (o1 o2 : Objs), toDVs o1 cs = toDVs o2 cs
  | [], _, _, _ => rfl
  | c :: cs, h, o1, o2 => by
    simp only [List.any_cons, Bool.or_eq_false_iff] at h
    simp only [toDVs, (toDV_same h.1 o1 o2).1, toDVs_same h.2 o1 o2]

theorem frzs_same : ∀ {cs : List CV} (_ : cs.any isOwn = false) (o1 : Objs), frzs o1 cs = o1
  | [], _, _ => rfl
  | c :: cs, h, o1 => by
    simp only [List.any_cons, Bool.or_eq_false_iff] at h
    have := frzs_same h.2 o1
    simp only [frzs, List.foldl_cons, (toDV_same h.1 o1 o1).2] at this ⊢
    exact this

theorem toDVss_same : ∀ {css : List (List CV)} (_ : css.any (·.any isOwn) = false) (o1 o2 : Objs), toDVss o1 css = toDVss o2 css ∧ frzs o1 css.flatten = o1
  | [], _, _, _ => ⟨rfl, rfl⟩
  | c :: cs, h, o1, o2 => by
    simp only [List.any_cons, Bool.or_eq_false_iff] at h
    have h2 := toDVss_same h.2 o1 o2
    refine ⟨by simp only [toDVss, toDVs_same h.1 o1 o2, h2.1], ?_⟩
    have e1 := frzs_same h.1 o1
    have e2 := h2.2
    simp only [frzs, List.flatten_cons, List.foldl_append] at e1 e2 ⊢
    rw [e1, e2]

theorem build_strict {C : Cfg} {o : Oper} {t len : Nat} {qs : Array (Nat × Operand)} {env : Env} (ho : o.op = .buildSlice t len qs) {v : TV} {objs objs' : Objs} (h : evOp C true o env objs = some (v, objs')) (objs1 : Objs) : evOp C true o env objs1 = some (v, objs1) := by
  have hb : ∀ ob, evLoud C true o env ob = evBuildSlice C true env t len qs.toList ob := fun ob => by
    unfold evLoud
    simp only [ho]
  have hbl : evBlind C o env = none := by unfold evBlind; simp [ho]
  unfold evOp at h ⊢
  simp only [hbl, hb] at h ⊢
  unfold evBuildSlice at h ⊢
  split at h
  case h_2 => cases h
  case h_1 ti css hti hcss =>
  split at h
  case h_2 => cases h
  case h_1 e he =>
  split at h
  case h_2 => cases h
  case h_1 te hte =>
  split at h
  case isFalse => cases h
  case isTrue hcond =>
  split at h
  case isTrue hz => exact absurd hz.2 (by simp)
  case isFalse hz =>
  split at h
  case h_2 => cases h
  case h_1 xs hxs =>
  cases hown : css.any (·.any isOwn) with
  | true => rw [hown] at h; simp at h
  | false =>
    rw [hown] at h
    simp only [Bool.and_false, Bool.false_eq_true, if_false, Option.some.injEq, Prod.mk.injEq] at h
    obtain ⟨rfl, rfl⟩ := h
    have h1 := toDVss_same hown objs1 objs
    have h2 := toDVss_same hown objs objs
    rw [h1.1, hxs]
    simp only [if_pos hcond, hz, if_false, hown, Bool.and_false, Bool.false_eq_true, h1.2]

section
variable {P : Program} {C : Cfg} {ops : Array Oper} {fl : List Bool} {ps : List Nat} {E : Nat → Env} {O : Nat → Objs} {v : Nat → TV}

theorem tr_len (ht : ∀ j o, ops[j]? = some o → Tr1 C ops fl E O v j o) : ∀ j, j ≤ ops.size → (E j).length = (E 0).length
  | 0, _ => rfl
  | j + 1, h => by
    have hj : ops[j]? = some ops[j] := Array.getElem?_eq_getElem (by omega)
    obtain ⟨g, _, _, _, hE⟩ := ht j _ hj
    rw [hE, ← tr_len ht j (by omega)]
    unfold putE; split <;> simp

theorem tr_env (ht : ∀ j o, ops[j]? = some o → Tr1 C ops fl E O v j o) (t : Nat) : ∀ j, j ≤ ops.size → (∀ i o, i < j → ops[i]? = some o → o.dst ≠ some t) → (E j)[t]? = (E 0)[t]?
  | 0, _, _ => rfl
  | j + 1, h, hw => by
    have hj : ops[j]? = some ops[j] := Array.getElem?_eq_getElem (by omega)
    obtain ⟨g, _, _, _, hE⟩ := ht j _ hj
    rw [hE, ← tr_env ht t j (by omega) (fun i o hi => hw i o (by omega))]
    have := hw j _ (by omega) hj
    unfold putE
    split
    · rename_i d hd
      rw [List.getElem?_set_ne (fun e => this (by rw [hd, e]))]
    · rfl

theorem tr_out (ht : ∀ j o, ops[j]? = some o → Tr1 C ops fl E O v j o) {t i : Nat} {oi : Oper} (hi : ops[i]? = some oi) (hd : oi.dst = some t) (hl : t < (E 0).length) : ∀ j, j ≤ ops.size → i < j → (∀ k o, ops[k]? = some o → k ≠ i → o.dst ≠ some t) → (E j)[t]? = some (v i)
  | 0, _, h, _ => by omega
  | j + 1, h, hij, hw => by
    have hj : ops[j]? = some ops[j] := Array.getElem?_eq_getElem (by omega)
    obtain ⟨g, _, _, _, hE⟩ := ht j _ hj
    rw [hE]
    by_cases hji : j = i
    · subst hji
      rw [hi] at hj; injection hj with hj
      rw [← hj, hd]
      have := tr_len ht j (by omega)
      simp only [putE]
      rw [List.getElem?_set_self (by omega)]
    · have h1 := tr_out ht hi hd hl j (by omega) (by omega) hw
      have := hw j _ hj hji
      unfold putE
      split
      · rename_i d hd'
        rw [List.getElem?_set_ne (fun e => this (by rw [hd', e]))]; exact h1
      · exact h1

theorem putE_len {env : Env} {d : Option Nat} {x : TV} : (putE env d x).length = env.length := by unfold putE; split <;> simp

theorem tr_fp (ht : ∀ j o, ops[j]? = some o → Tr1 C ops fl E O v j o) (hP : ∀ t ∈ ps, ¬ 1000000 ≤ t → ∃ cs, (E 0)[t]? = some (.v (.one (.fp cs)))) : ∀ n j t, j ≤ ops.size → t < (E 0).length → fpT fl ps ops n j t = true → ∃ cs, (E j)[t]? = some (.v (.one (.fp cs)))
  | 0, j, t, _, _, h => by simp [fpT] at h
  | n + 1, j, t, hj, hl, h => by
    unfold fpT at h
    rw [Bool.or_eq_true] at h
    rcases h with h | h
    · rw [Bool.and_eq_true] at h
      have hh := h.1
      rw [Bool.and_eq_true] at hh
      obtain ⟨cs, hcs⟩ := hP t (by simpa using hh.1) (by simpa using hh.2)
      refine ⟨cs, ?_⟩
      rw [tr_env ht t j hj (fun i oi hij hi e => ?_)]
      · exact hcs
      · have := List.all_eq_true.1 h.2 oi (by rw [Array.mem_toList_iff]; exact Array.mem_of_getElem? hi)
        rw [e] at this; simp at this
    · obtain ⟨i, hir, hi⟩ := List.any_eq_true.1 h
      have hij : i < j := List.mem_range.1 hir
      split at hi
      case h_2 => cases hi
      case h_1 o ho =>
      simp only [Bool.and_eq_true, beq_iff_eq, Option.isNone_iff_eq_none] at hi
      obtain ⟨⟨⟨⟨hd, hg⟩, hf⟩, hu⟩, hc⟩ := hi
      have uniq : ∀ k ok, ops[k]? = some ok → k ≠ i → ok.dst ≠ some t := fun k ok hk hne e => by
        have := List.all_eq_true.1 hu k (List.mem_range.2 (Array.getElem?_eq_some_iff.1 hk).1)
        rw [opAt_some hk, e] at this
        simp [hne] at this
      rw [tr_out ht ho hd hl j hj hij uniq]
      obtain ⟨g, h1, h2, _, _⟩ := ht i o ho
      have hgt : g = true := by
        unfold guardOf at h1
        rw [hg] at h1
        injection h1 with h1; exact h1.symm
      have hr := h2 hgt
      rw [hf] at hr
      have ul : ∀ (u : Nat) (x : TV), (E i)[u]? = some x → u < (E 0).length := fun u x hx => by
        rw [← tr_len ht i (by omega)]; exact (List.getElem?_eq_some_iff.1 hx).1
      have pos : ∀ u : Nat, fpT fl ps ops n i u = true → (∃ x, (E i)[u]? = some x) → ∃ cs, (E i)[u]? = some (.v (.one (.fp cs))) := fun u hfu ⟨x, hx⟩ => tr_fp ht hP n i u (by omega) (ul u x hx) hfu
      split at hc
      case h_4 => cases hc
      case h_1 u hop =>
        cases hx : (E i)[u]? with
        | none => simp [evOp, evBlind, evLoud, hop, rd, hx] at hr
        | some x =>
          obtain ⟨cs, hcs⟩ := pos u hc ⟨x, hx⟩
          simp [evOp, evBlind, hop, rd, hcs] at hr
          exact ⟨cs, by rw [hr.1]⟩
      case h_2 u hop =>
        cases hx : (E i)[u]? with
        | none => simp [evOp, evBlind, evLoud, hop, rd1, rd, hx, evNilCheck] at hr
        | some x =>
          obtain ⟨cs, hcs⟩ := pos u hc ⟨x, hx⟩
          simp [evOp, evBlind, hop, rd1, rd, hcs, evNilCheck] at hr
          exact ⟨cs, by rw [hr.1]⟩
      case h_3 s u f hop =>
        cases hx : (E i)[u]? with
        | none => 
          simp [evOp, evBlind, evLoud, hop, rd1, rd, hx, evFieldAddr] at hr
        | some x =>
          obtain ⟨cs, hcs⟩ := pos u hc ⟨x, hx⟩
          have he : evBlind C o (E i) = evFieldAddr (C.ti s) (some (.fp cs)) f := by unfold evBlind; simp only [hop, rd1, rd, hcs]
          unfold evOp at hr
          rw [he] at hr
          cases hb : evFieldAddr (C.ti s) (some (.fp cs)) f with
          | none =>
            rw [hb] at hr
            simp [evLoud, hop] at hr
          | some y =>
            rw [hb] at hr
            simp only [Option.some.injEq, Prod.mk.injEq] at hr
            rw [← hr.1]
            unfold evFieldAddr at hb
            split at hb
            · rename_i h1 h2; cases h2
            · rename_i h2
              injection h2 with h2; injection h2 with h2; subst h2
              split at hb
              · split at hb
                · cases hb
                · injection hb with hb; exact ⟨_, by rw [hb]⟩
              · cases hb
            · cases hb

theorem tr_still (ht : ∀ j o, ops[j]? = some o → Tr1 C ops fl E O v j o) {m : Nat} : ∀ j, m ≤ j → j ≤ ops.size → (∀ i, m ≤ i → i < j → (fl.drop i).headD false = true) → O j = O m
  | 0, h, _, _ => by have : m = 0 := by omega
                     rw [this]
  | j + 1, h, hn, hs => by
    by_cases hm : m = j + 1
    · rw [hm]
    · have hj : ops[j]? = some ops[j] := Array.getElem?_eq_getElem (by omega)
      obtain ⟨g, hg, h1, h2, _⟩ := ht j _ hj
      rw [← tr_still ht j (by omega) (by omega) (fun i hi hij => hs i hi (by omega))]
      cases g with
      | false => exact (h2 rfl).2
      | true =>
        have := h1 rfl
        rw [hs j (by omega) (by omega)] at this
        exact (op_strict this).1

theorem tr_ext (ht : ∀ j o, ops[j]? = some o → Tr1 C ops fl E O v j o) {m : Nat} : ∀ j, m ≤ j → j ≤ ops.size → (∀ i o, m ≤ i → i < j → ops[i]? = some o → (fl.drop i).headD false = true ∨ allocOp o.op = true) → ∃ ext, O j = O m ++ ext
  | 0, h, _, _ => by
    have h0 : m = 0 := by omega
    exact ⟨[], by rw [h0]; simp⟩
  | j + 1, h, hn, hs => by
    by_cases hm : m = j + 1
    · exact ⟨[], by rw [hm]; simp⟩
    · have hj : ops[j]? = some ops[j] := Array.getElem?_eq_getElem (by omega)
      obtain ⟨g, hg, h1, h2, _⟩ := ht j _ hj
      obtain ⟨ext, hx⟩ := tr_ext ht j (by omega) (by omega) (fun i o hi hij => hs i o hi (by omega))
      cases g with
      | false => exact ⟨ext, by rw [(h2 rfl).2, hx]⟩
      | true =>
        have h3 := h1 rfl
        rcases hs j _ (by omega) (by omega) hj with hf | hf
        · rw [hf] at h3
          exact ⟨ext, by rw [(op_strict h3).1, hx]⟩
        · obtain ⟨ext2, hx2⟩ := alloc_ext hf h3
          exact ⟨ext ++ ext2, by rw [hx2, hx, List.append_assoc]⟩
end

structure InvG (ops : Array Oper) (E : Nat → Env) (O : Nat → Objs) (Φ : Fz) (θ : Th) (base : Nat) (w : World) (df : List Deferred) (OB : Objs) (vv : Nat → TV) (listed : Array Bool) (a' : Act) (w' : World) : Prop where
  sz : listed.size = ops.size
  closed : ∀ k o, ops[k]? = some o → listed.getD k false = true → ∀ e ∈ o.after, Region.binds .any e = true → listed.getD e.on false = true
  st : ∃ Φ' θ', Goes Φ θ base w (O 0) Φ' θ' w' OB ∧ StR Φ' θ' base w' [] OB #[] ∧
    a'.tmps.size = (E 0).length ∧ a'.defers = df ∧
    (∀ t x, (E 0)[t]? = some x → (∀ i o, ops[i]? = some o → o.dst = some t → listed.getD i false = false) → ∀ u, a'.tmps[t]? = some u → TVR Φ' θ' OB x u) ∧
    (∀ i o t, ops[i]? = some o → o.dst = some t → listed.getD i false = true → ∀ u, a'.tmps[t]? = some u → TVR Φ' θ' OB (vv i) u)

def Inv (ops : Array Oper) (fl : List Bool) (E : Nat → Env) (O : Nat → Objs) (v : Nat → TV) (Φ : Fz) (θ : Th) (base : Nat) (w : World) (df : List Deferred) (listed : Array Bool) (a' : Act) (w' : World) : Prop :=
  ∃ m, m ≤ ops.size ∧ (∀ i, i < ops.size → (fl.drop i).headD false = false → (i < m ↔ listed.getD i false = true)) ∧ InvG ops E O Φ θ base w df (O m) v listed a' w'

theorem getD_true {listed : Array Bool} {i : Nat} (h : listed.getD i false = true) : listed.getD i true = true := by
  simp only [Array.getD_eq_getD_getElem?] at h ⊢
  cases hx : listed[i]? with
  | none => rw [hx] at h; cases h
  | some b => rw [hx] at h; exact h

theorem getD_false {listed : Array Bool} {i : Nat} (h : listed.getD i true = false) : listed.getD i false = false := by
  simp only [Array.getD_eq_getD_getElem?] at h ⊢
  cases hx : listed[i]? with
  | none => rw [hx] at h; cases h
  | some b => rw [hx] at h; exact h

theorem getD_set_self {listed : Array Bool} {i : Nat} (h : i < listed.size) : (listed.setIfInBounds i true).getD i false = true := by
  simp [h]

section
variable {P : Program} {C : Cfg} {ops : Array Oper} {fl : List Bool} {ps : List Nat} {E : Nat → Env} {O : Nat → Objs} {v : Nat → TV} {Φ : Fz} {θ : Th} {base : Nat} {w : World} {df : List Deferred}

theorem step_gen (hC : CfgOk P C) (hK : CallsOk P C) (ht : ∀ j o, ops[j]? = some o → Tr1 C ops fl E O v j o) (hT : tmpsOk ops = true) {OB OB' : Objs} {vv : Nat → TV} {x : TV}
    {listed : Array Bool} {a' : Act} {w' : World} (hI : InvG ops E O Φ θ base w df OB vv listed a' w') {j : Nat} (hj : j ∈ Region.ready .any ops listed) {K : Act → World → Prop} {Q : Exit → Act → World → Prop}
    (hvv : ∀ o i oi t, ops[j]? = some o → ops[i]? = some oi → oi.dst = some t → i ≠ j → t ∈ o.looksAt ops → listed.getD i false = true → vv i = v i)
    (hobj : ∀ o g, ops[j]? = some o → guardOf ops (E j) o = some g → (g = true → evOp C ((fl.drop j).headD false) o (E j) OB = some (x, OB')) ∧ (g = false → OB' = OB ∧ x = .tup []))
    (hk : ∀ a'' w'', InvG ops E O Φ θ base w df OB' (fun i => if i = j then x else vv i) (listed.setIfInBounds j true) a'' w'' → K a'' w'') : wpOp P ops Q j K a' w' := by
  obtain ⟨hun, o, ho, hdeps⟩ := mem_ready.1 hj
  have hjn : j < ops.size := (Array.getElem?_eq_some_iff.1 ho).1
  have hunf := getD_false hun
  obtain ⟨hsz, hcl, Φ1, θ1, hgo, hst, hts, hdf, hold, hnew⟩ := hI
  have hsetj : (listed.setIfInBounds j true).getD j false = true := getD_set_self (by omega)
  have hsetn : ∀ {i}, i ≠ j → (listed.setIfInBounds j true).getD i false = listed.getD i false := fun h => getD_set_ne false (Ne.symm h)
  -- what it looks at
  have hlook : ∀ t, t ∈ o.looksAt ops → ∀ x, (E j)[t]? = some x → ∀ u, a'.tmps[t]? = some u → TVR Φ1 θ1 OB x u := by
    intro t htl x hx u hu
    have htlen : t < (E 0).length := by
      rw [← tr_len ht j (by omega)]; exact (List.getElem?_eq_some_iff.1 hx).1
    have fresh : (∀ i oi, i < j → ops[i]? = some oi → oi.dst ≠ some t) → (∀ i oi, ops[i]? = some oi → oi.dst = some t → listed.getD i false = false) → TVR Φ1 θ1 OB x u := by
      intro h1 h2
      rw [tr_env ht t j (by omega) h1] at hx
      exact hold t x hx h2 u hu
    by_cases hw : ∃ (i : Nat) (oi : Oper), ops[i]? = some oi ∧ oi.dst = some t
    · obtain ⟨i, oi, hi, hd⟩ := hw
      have uniq : ∀ k ok, ops[k]? = some ok → k ≠ i → ok.dst ≠ some t := fun k ok hk hne => ((tmpsOk_spec hT hk).2 i oi t hi hd (Ne.symm hne)).1
      by_cases hij : i = j
      · subst hij
        exact fresh (fun k ok hk hok => uniq k ok hok (by omega)) (fun k ok hok hkd => by
          by_cases hki : k = i
          · rw [hki]; exact hunf
          · exact absurd hkd (uniq k ok hok hki))
      · rcases ((tmpsOk_spec hT ho).2 i oi t hi hd hij).2 htl with ⟨hlt, hdep⟩ | ⟨hlt, hdep⟩
        · obtain ⟨o', ho', e, he, hb, heq⟩ := dep_one hdep
          rw [ho] at ho'; injection ho' with ho'; subst ho'
          have hli : listed.getD i false = true := by rw [← heq]; exact hdeps e he hb
          rw [tr_out ht hi hd htlen j (by omega) hlt uniq] at hx
          injection hx with hx; subst hx
          have hx := hnew i oi t hi hd hli u hu
          rw [hvv o i oi t ho hi hd hij htl hli] at hx
          exact hx
        · obtain ⟨o', ho', e, he, hb, heq⟩ := dep_one hdep
          refine fresh (fun k ok hk hok => uniq k ok hok (by omega)) (fun k ok hok hkd => ?_)
          have hki : k = i := by
            by_cases hki : k = i
            · exact hki
            · exact absurd hkd (uniq k ok hok hki)
          subst hki
          cases hl : listed.getD k false with
          | false => rfl
          | true =>
            have := hcl k o' ho' hl e he hb
            rw [heq, hunf] at this; cases this
    · exact fresh (fun i oi _ hi hd => hw ⟨i, oi, hi, hd⟩) (fun i oi hi hd => absurd ⟨i, oi, hi, hd⟩ hw)
  -- a view of the state that shows what it looks at
  obtain ⟨env1, henv1⟩ : ∃ e : Env, e = (List.range (E 0).length).map (fun t => if t ∈ o.looksAt ops then (E j).getD t .unk else .unk) := ⟨_, rfl⟩
  have hlen1 : env1.length = (E 0).length := by rw [henv1]; simp
  have hget1 : ∀ t, t ∈ o.looksAt ops → env1[t]? = (E j)[t]? := by
    intro t htl
    by_cases hl : t < (E 0).length
    · have hl' : t < (E j).length := by rw [tr_len ht j (by omega)]; exact hl
      rw [henv1]
      simp [hl, htl, List.getD_eq_getElem?_getD, List.getElem?_eq_getElem hl']
    · have hl' : ¬ t < (E j).length := by rw [tr_len ht j (by omega)]; exact hl
      rw [List.getElem?_eq_none (l := E j) (Nat.le_of_not_lt hl'), List.getElem?_eq_none (Nat.le_of_not_lt (fun h => hl (by rw [← hlen1]; exact h)))]
  have hst1 : StR Φ1 θ1 base w' env1 OB a'.tmps := by
    refine ⟨hst.sat, ⟨by rw [hlen1]; simpa using hts.symm, fun t x u hx hu => ?_⟩, hst.ob, hst.apart, hst.base⟩
    by_cases htl : t ∈ o.looksAt ops
    · rw [hget1 t htl] at hx
      exact hlook t htl x hx u (by simpa using hu)
    · have hl : t < (E 0).length := by rw [← hlen1]; exact (List.getElem?_eq_some_iff.1 hx).1
      rw [henv1] at hx
      simp [hl, htl] at hx
      subst hx; trivial
  have hgd : guardOf ops env1 o = guardOf ops (E j) o := by
    unfold guardOf
    cases hg : o.guard with
    | none => rfl
    | some p =>
      obtain ⟨g, b⟩ := p
      simp only
      cases hd : (ops[g]?).bind (·.dst) with
      | none => rfl
      | some t =>
        simp only
        rw [hget1 t (by unfold Oper.looksAt; simp [hg, hd])]
  have hop : ∀ s ob, evOp C s o env1 ob = evOp C s o (E j) ob := fun s ob => evOp_congr fun x hx => by
    cases x <;> try rfl
    rename_i t
    simp only [rd]
    exact hget1 t (List.mem_append_left _ (List.mem_filterMap.2 ⟨.tmp t, by simpa using hx, rfl⟩))
  obtain ⟨g, hg, hrun, hskip, hE⟩ := ht j o ho
  -- the new state
  have fin : ∀ Φ2 θ2 w2 cv, Goes Φ1 θ1 base w' OB Φ2 θ2 w2 OB' → StR Φ2 θ2 base w2 [] OB' #[] → TVR Φ2 θ2 OB' x cv → K (a'.put o.dst cv) w2 := by
    intro Φ2 θ2 w2 cv hgo2 hst2 hcv
    refine hk _ _ ⟨by simpa using hsz, fun k ok hok hl e he hb => ?_, Φ2, θ2, hgo.trans hgo2, hst2, ?_, (put_def _ _ _).trans hdf, fun t x hx hno u hu => ?_, fun i oi t hi hd hl u hu => ?_⟩
    · by_cases hkj : k = j
      · subst hkj
        rw [ho] at hok; injection hok with hok; subst hok
        exact getD_set_true (hdeps e he hb)
      · rw [hsetn hkj] at hl
        exact getD_set_true (hcl k ok hok hl e he hb)
    · rw [← hts]; cases o.dst <;> simp [Act.put]
    · have hnt : o.dst ≠ some t := fun hd => by have := hno j o ho hd; rw [hsetj] at this; cases this
      have hu' : a'.tmps[t]? = some u := by
        cases hd : o.dst with
        | none => rw [hd] at hu; exact hu
        | some d =>
          rw [hd] at hu hnt
          simpa [Act.put, Array.getElem?_setIfInBounds_ne (show d ≠ t from fun e => hnt (by rw [e]))] using hu
      refine TVR.go hgo2.le hgo2.go (hold t x hx (fun i oi hi hd => ?_) u hu')
      have hij : i ≠ j := fun e => by subst e; rw [ho] at hi; injection hi with hi; subst hi; exact hnt hd
      have := hno i oi hi hd
      rwa [hsetn hij] at this
    · by_cases hij : i = j
      · subst hij
        rw [ho] at hi; injection hi with hi; subst hi
        rw [hd] at hu
        simp only [Act.put, Array.getElem?_setIfInBounds_self] at hu
        split at hu
        · injection hu with hu; subst hu; rw [if_pos rfl]; exact hcv
        · cases hu
      · rw [hsetn hij] at hl
        have hnt : o.dst ≠ some t := ((tmpsOk_spec hT ho).2 i oi t hi hd hij).1
        have hu' : a'.tmps[t]? = some u := by
          cases hd : o.dst with
          | none => rw [hd] at hu; exact hu
          | some d =>
            rw [hd] at hu hnt
            simpa [Act.put, Array.getElem?_setIfInBounds_ne (show d ≠ t from fun e => hnt (by rw [e]))] using hu
        rw [if_neg hij]
        exact TVR.go hgo2.le hgo2.go (hnew i oi t hi hd hl u hu')
  unfold wpOp
  simp only [ho]
  rw [wanted_ok hst1.env (hgd.trans hg)]
  cases hgb : g with
  | true =>
    rw [if_pos rfl]
    have hr := (hobj o g ho hg).1 hgb
    rw [← hop] at hr
    refine .inl (op_ok hC hK hst1 hr K Q fun cv w2 hp => ?_)
    obtain ⟨Φ2, θ2, hgo2, hst2, hcv⟩ := hp
    exact fin Φ2 θ2 w2 cv hgo2 ⟨hst2.sat, All2.nil, hst2.ob, hst2.apart, hst2.base⟩ hcv
  | false =>
    simp only [Bool.false_eq_true, if_false]
    obtain ⟨hO, hx⟩ := (hobj o g ho hg).2 hgb
    refine fin Φ1 θ1 w' undef (by rw [hO]; exact Goes.refl _ _ _ _ _) (by rw [hO]; exact hst) (by rw [hx]; exact undef_ok)


theorem inv_step (hC : CfgOk P C) (hK : CallsOk P C) (ht : ∀ j o, ops[j]? = some o → Tr1 C ops fl E O v j o) (hT : tmpsOk ops = true) (hP : ∀ t ∈ ps, ¬ 1000000 ≤ t → ∃ cs, (E 0)[t]? = some (.v (.one (.fp cs)))) (hF : ∀ i, i < ops.size → (fl.drop i).headD false = false → ordOk fl ps ops i = true) (hPF : ∀ p, 1000000 + p ∈ ps → pairOk C fl ops p = true)
    {listed : Array Bool} {a' : Act} {w' : World} (hI : Inv ops fl E O v Φ θ base w df listed a' w') {j : Nat} (hj : j ∈ Region.ready .any ops listed) (hpr : ∀ p, 1000000 + p ∈ ps → j = p + 1 → listed.getD p false = true) {K : Act → World → Prop} {Q : Exit → Act → World → Prop}
    (hk : ∀ a'' w'', Inv ops fl E O v Φ θ base w df (listed.setIfInBounds j true) a'' w'' → K a'' w'') : wpOp P ops Q j K a' w' := by
  obtain ⟨hun, o, ho, hdeps⟩ := mem_ready.1 hj
  have hjn : j < ops.size := (Array.getElem?_eq_some_iff.1 ho).1
  have hunf := getD_false hun
  obtain ⟨m, hmn, hm, hG⟩ := hI
  obtain ⟨hsz, hcl, _⟩ := id hG
  have hsetj : (listed.setIfInBounds j true).getD j false = true := getD_set_self (by omega)
  have hsetn : ∀ {i}, i ≠ j → (listed.setIfInBounds j true).getD i false = listed.getD i false := fun h => getD_set_ne false (Ne.symm h)
  have hdl : ∀ i, dep ops ops.size j i = true → listed.getD i false = true := fun i hd =>
    dep_listed (L := fun k => listed.getD k false = true) hcl ops.size j i (fun o' ho' => by rw [ho] at ho'; injection ho' with ho'; subst ho'; exact hdeps) hd
  have hnd : ∀ k, listed.getD k false = true → dep ops ops.size k j = true → False := fun k hk hd => by
    have hl := dep_listed (L := fun k => listed.getD k false = true) hcl ops.size k j (fun o' ho' => hcl k o' ho' hk) hd
    rw [hunf] at hl; cases hl
  obtain ⟨g, hg, hrun, hskip, hE⟩ := ht j o ho
  -- the objects
  have hobj : ∃ m', m' ≤ ops.size ∧ (∀ i, i < ops.size → (fl.drop i).headD false = false → (i < m' ↔ (listed.setIfInBounds j true).getD i false = true)) ∧
      (g = true → evOp C ((fl.drop j).headD false) o (E j) (O m) = some (v j, O m')) ∧ (g = false → O m' = O m) := by
    by_cases hfj : (fl.drop j).headD false = false
    · obtain ⟨hbj, hoj⟩ := ordOk_spec ho (hF j hjn hfj)
      have hless : ∀ i, i < ops.size → (fl.drop i).headD false = false → i < j → listed.getD i false = true := fun i hi hfi hij => by
        have hoi : ops[i]? = some ops[i] := Array.getElem?_eq_getElem hi
        by_cases hx : 1000000 + i ∈ ps ∧ j = i + 1
        · exact hpr i hx.1 hx.2
        · exact hdl i ((ordOk_hard hoi (hF i hi hfi) ho hbj hfj hx).1 hij)
      have hmore : ∀ i, i < ops.size → (fl.drop i).headD false = false → j < i → listed.getD i false = false := fun i hi hfi hij => by
        have hoi : ops[i]? = some ops[i] := Array.getElem?_eq_getElem hi
        cases hl : listed.getD i false with
        | false => rfl
        | true =>
          by_cases hx : 1000000 + j ∈ ps ∧ i = j + 1
          · have h1 := (hm i hi hfi).2 hl
            have h2 := (hm j hjn hfj).1 (by omega)
            rw [hunf] at h2; cases h2
          · exact (hnd i hl ((ordOk_hard ho (hF j hjn hfj) hoi (ordOk_spec hoi (hF i hi hfi)).1 hfi hx).1 hij)).elim
      have hmj : m ≤ j := by
        rcases Nat.lt_or_ge j m with h | h
        · have := (hm j hjn hfj).1 h; rw [hunf] at this; cases this
        · exact h
      have hOm : O j = O m := tr_still ht j hmj (by omega) (fun i hmi hij => by
        cases hfi : (fl.drop i).headD false with
        | true => rfl
        | false =>
          have := (hm i (by omega) hfi).2 (hless i (by omega) hfi hij)
          omega)
      refine ⟨j + 1, by omega, fun i hi hfi => ?_, fun hgt => by rw [← hOm]; exact hrun hgt, fun hgf => by rw [(hskip hgf).2, hOm]⟩
      by_cases hij : i = j
      · subst hij; rw [hsetj]; simp
      · rw [hsetn hij]
        constructor
        · intro h; exact hless i hi hfi (by omega)
        · intro h
          rcases Nat.lt_or_ge i (j + 1) with h' | h'
          · exact h'
          · rw [hmore i hi hfi (by omega)] at h; cases h
    · have hfj' : (fl.drop j).headD false = true := by simpa using hfj
      refine ⟨m, hmn, fun i hi hfi => ?_, fun hgt => ?_, fun _ => rfl⟩
      · have hij : i ≠ j := fun e => by subst e; rw [hfi] at hfj'; cases hfj'
        rw [hsetn hij]; exact hm i hi hfi
      · have hr := hrun hgt
        rw [hfj'] at hr ⊢
        obtain ⟨hsame, hext⟩ := op_strict hr
        by_cases hbj : blindOp o.op = true
        · exact op_blind hbj hr _
        · have hbj' : blindOp o.op = false := by simpa using hbj
          cases hpj : pinL fl ps ops j with
          | true =>
            rcases (pinL_spec ho hpj).2 with ⟨u, t, hop, hfp⟩ | ⟨t, len, qs, hop⟩
            case inr => exact build_strict hop hr _
            obtain ⟨cs, hcs⟩ := tr_fp ht hP 20 j t (by omega) (by
              cases hx : (E j)[t]? with
              | none => simp [evOp, evBlind, evLoud, hop, rd1, rd, hx, evLoad] at hr
              | some x => rw [← tr_len ht j (by omega)]; exact (List.getElem?_eq_some_iff.1 hx).1) hfp
            exact load_fp hop hcs hr _
          | false =>
          have hno : ∀ {i oi}, ops[i]? = some oi → ordOk fl ps ops i = true → (i < j → dep ops ops.size j i = true) ∧ (j < i → dep ops ops.size i j = true ∨ allocOp oi.op = true) := fun hi h => by
            rcases (ordOk_spec hi h).2 j o ho hbj' (fun hx => by
              obtain ⟨_, _, _, _, _, _, _, _, _, _, _, _, _, _, _, hf2, _⟩ := pairOk_spec (hPF _ hx.1)
              rw [← hx.2, hfj'] at hf2; cases hf2) with hp | h
            · rw [hpj] at hp; cases hp
            · exact h
          have hless : ∀ i, i < ops.size → (fl.drop i).headD false = false → i < j → i < m := fun i hi hfi hij => by
            have hoi : ops[i]? = some ops[i] := Array.getElem?_eq_getElem hi
            exact (hm i hi hfi).2 (hdl i ((hno hoi (hF i hi hfi)).1 hij))
          rcases Nat.lt_or_ge j m with hjm | hmj
          · obtain ⟨ext, hx⟩ := tr_ext ht (m := j) m (by omega) hmn (fun i oi hji him hoi => by
              cases hfi : (fl.drop i).headD false with
              | true => exact .inl rfl
              | false =>
                right
                have hl := (hm i (by omega) hfi).1 him
                have hne : i ≠ j := fun e => by subst e; rw [hunf] at hl; cases hl
                rcases (hno hoi (hF i (by omega) hfi)).2 (by omega) with hd | ha
                · exact (hnd i hl hd).elim
                · exact ha)
            rw [hx, hext ext]
          · have hOm : O j = O m := tr_still ht j hmj (by omega) (fun i hmi hij => by
              cases hfi : (fl.drop i).headD false with
              | true => rfl
              | false => have := hless i (by omega) hfi hij; omega)
            rw [← hOm, hr, hsame]
  obtain ⟨m', hmn', hm', hrun', hskip'⟩ := hobj
  have e : (fun i => if i = j then v j else v i) = v := by
    funext i
    by_cases hij : i = j
    · rw [if_pos hij, hij]
    · rw [if_neg hij]
  refine step_gen (vv := v) (x := v j) (OB' := O m') hC hK ht hT hG hj (fun _ _ _ _ _ _ _ _ _ _ => rfl) (fun o' g' ho' hg' => ?_) (fun a'' w'' hI' => hk a'' w'' ⟨m', hmn', hm', by rw [e] at hI'; exact hI'⟩)
  rw [ho] at ho'; injection ho' with ho'; subst ho'
  rw [hg] at hg'; injection hg' with hg'; subst hg'
  exact ⟨hrun', fun h => ⟨hskip' h, (hskip h).1⟩⟩

theorem zcs_lt (n : Nat) (l : List DV) : ∀ c ∈ zcs l, cLt n c = true := by
  intro c hc
  obtain ⟨x, _, rfl⟩ := List.mem_map.1 hc
  unfold zcv
  split <;> rfl

theorem alloc_ev {C : Cfg} {o : Oper} {t : Nat} (ho : o.op = .alloc t) (hw : ownsOf C o.dst = []) {env : Env} {objs objs' : Objs} {x : TV} (h : evOp C false o env objs = some (x, objs')) :
    ∃ z, (∀ n, ∀ c ∈ z, cLt n c = true) ∧ x = .v (.one (.ptr objs.length 0 0)) ∧ objs' = objs ++ [.box t z] ∧ ∀ env1 objs1, evOp C false o env1 objs1 = some (.v (.one (.ptr objs1.length 0 0)), objs1 ++ [.box t z]) := by
  have key : ∀ (env : Env) (objs : Objs), evOp C false o env objs = (C.ti t).map fun ti => (TV.v (.one (.ptr objs.length 0 0)), objs ++ [.box t (zcs ti.zero)]) := by
    intro env objs
    have h1 : evBlind C o env = none := by unfold evBlind; rw [ho]
    have h2 : evLoud C false o env objs = evAlloc [] t (C.ti t) objs := by unfold evLoud; rw [ho, ← hw]; simp
    unfold evOp
    rw [h1, h2, hw]
    cases C.ti t with
    | none => rfl
    | some ti => simp [evAlloc, ownCs, ownV]
  rw [key] at h
  cases hti : C.ti t with
  | none => rw [hti] at h; simp at h
  | some ti =>
    rw [hti] at h
    simp only [Option.map_some, Option.some.injEq, Prod.mk.injEq] at h
    obtain ⟨rfl, rfl⟩ := h
    exact ⟨zcs ti.zero, fun n => zcs_lt n _, rfl, rfl, fun env1 objs1 => by rw [key, hti]; rfl⟩

theorem Ref.lt {objs : Objs} {id n : Nat} {p : Prop} (h : Ref objs id n p) : id < objs.length := by
  obtain ⟨s, hs, _⟩ := h
  obtain ⟨o, ho, _⟩ := Lr_some hs
  exact (List.getElem?_eq_some_iff.1 ho).1

theorem all2_lt {θ : Th} {objs : Objs} {fs : List (Nat × Nat)} {a : List Value} (h : All2 (PtR θ objs) fs a) : fs.all (fun p => decide (p.1 < objs.length)) = true := by
  refine List.all_eq_true.2 fun p hp => ?_
  obtain ⟨i, hi⟩ := List.getElem?_of_mem hp
  obtain ⟨y, _, b, _, hr⟩ := h.get hi
  exact decide_eq_true hr.lt

theorem CR.lt {Φ : Fz} {θ : Th} {objs : Objs} {c : CV} {u : Value} (h : CR Φ θ objs c u) : cLt objs.length c = true := by
  cases c with
  | d x => rfl
  | own id n => exact decide_eq_true h.2.lt
  | ptr id n off => obtain ⟨b, _, hr⟩ := h; exact decide_eq_true hr.lt
  | fp cs => rfl
  | unk => rfl
  | nil => rfl
  | unkB => rfl
  | vw id n lo hi k =>
    obtain ⟨h1, h2, ad, c, hv, hc, hz, hr⟩ := h
    simp only [cLt, Bool.or_eq_true, Bool.and_eq_true, decide_eq_true_eq, Bool.not_eq_true', decide_eq_false_iff_not]
    by_cases h0 : lo = 0
    · exact .inl (hz h0).lt
    · by_cases hlt : lo < hi
      · obtain ⟨b, _, hr'⟩ := hr hlt
        exact .inl hr'.lt
      · exact .inr ⟨h0, hlt⟩
  | mp id => obtain ⟨b, _, hr⟩ := h; exact decide_eq_true hr.lt
  | clo f fs cs =>
    obtain ⟨x, y, hv, h1, h2⟩ := h
    simp only [cLt, Bool.and_eq_true]
    exact ⟨all2_lt h1, all2_lt h2⟩

theorem V1R.lt {Φ : Fz} {θ : Th} {objs : Objs} {x : V1} {u : Value} (h : V1R Φ θ objs x u) : v1Lt objs.length x = true := by
  cases x with
  | one c => exact CR.lt h
  | agg cs =>
    obtain ⟨vs, _, hc⟩ := h
    refine List.all_eq_true.2 fun c hm => ?_
    obtain ⟨i, hi⟩ := List.getElem?_of_mem hm
    obtain ⟨y, _, hr⟩ := hc.get hi
    exact CR.lt hr

theorem TVR.lt {Φ : Fz} {θ : Th} {objs : Objs} {x : TV} {u : Value} (h : TVR Φ θ objs x u) : vLt objs.length x = true := by
  cases x with
  | v x => exact V1R.lt h
  | tup xs =>
    obtain ⟨vs, _, hc⟩ := h
    refine List.all_eq_true.2 fun c hm => ?_
    obtain ⟨i, hi⟩ := List.getElem?_of_mem hm
    obtain ⟨y, _, hr⟩ := hc.get hi
    exact V1R.lt hr
  | unk => rfl

def sw (n : Nat) (θ : Th) : Th := fun id => if id = n then θ (n + 1) else if id = n + 1 then θ n else θ id
theorem sw_old {n id : Nat} {θ : Th} (h : id < n) : sw n θ id = θ id := by unfold sw; rw [if_neg (by omega), if_neg (by omega)]
theorem sw_fst (n : Nat) (θ : Th) : sw n θ n = θ (n + 1) := by unfold sw; rw [if_pos rfl]
theorem sw_snd (n : Nat) (θ : Th) : sw n θ (n + 1) = θ n := by unfold sw; rw [if_neg (by omega), if_pos rfl]

theorem Lr_old {A r : Objs} {id : Nat} (h : id < A.length) : Lr (A ++ r) id = Lr A id := by unfold Lr; rw [List.getElem?_append_left h]

theorem Ref.sw {A r r' : Objs} {id k : Nat} {p p' : Prop} (hid : id < A.length) (h : Ref (A ++ r) id k p) (hp : p → p') : Ref (A ++ r') id k p' := by
  obtain ⟨s, hs, hr⟩ := h
  rw [Lr_old hid] at hs
  exact ⟨s, by rw [Lr_old hid]; exact hs, fun m hm => ⟨(hr m hm).1, fun e => hp ((hr m hm).2 e)⟩⟩

theorem all2_sw {A r r' : Objs} {θ : Th} {fs : List (Nat × Nat)} {a : List Value} (h : All2 (PtR θ (A ++ r)) fs a) (hl : fs.all (fun p => decide (p.1 < A.length)) = true) : All2 (PtR (Vm.sw A.length θ) (A ++ r')) fs a := by
  refine ⟨h.1, fun i p u hp hu => ?_⟩
  have hi : p.1 < A.length := of_decide_eq_true (List.all_eq_true.1 hl p (List.mem_of_getElem? hp))
  obtain ⟨b, hb, hr⟩ := h.2 i p u hp hu
  exact ⟨b, hb, hr.sw hi (fun e => by rw [sw_old hi]; exact e)⟩

theorem CR.sw {Φ : Fz} {A r r' : Objs} {θ : Th} {c : CV} {u : Value} (h : CR Φ θ (A ++ r) c u) (hl : cLt A.length c = true) : CR Φ (Vm.sw A.length θ) (A ++ r') c u := by
  cases c with
  | d x => exact h
  | own id n => have hi : id < A.length := of_decide_eq_true hl; exact ⟨h.1, h.2.sw hi (fun e => by rw [sw_old hi]; exact e)⟩
  | ptr id n off => have hi : id < A.length := of_decide_eq_true hl; obtain ⟨b, hb, hr⟩ := h; exact ⟨b, hb, hr.sw hi (fun e => by rw [sw_old hi]; exact e)⟩
  | fp cs => exact h
  | unk => exact h
  | nil => exact h
  | unkB => exact h
  | vw id n lo hi k =>
    obtain ⟨h1, h2, ad, c, hv, hc, hz, hr⟩ := h
    simp only [cLt, Bool.or_eq_true, Bool.and_eq_true, decide_eq_true_eq, Bool.not_eq_true', decide_eq_false_iff_not] at hl
    refine ⟨h1, h2, ad, c, hv, hc, fun h0 => ?_, fun hlt => ?_⟩
    · have hi : id < A.length := hl.elim (fun h => h) (fun h => absurd h0 h.1)
      exact (hz h0).sw hi (fun e => by rw [sw_old hi]; exact e)
    · have hi : id < A.length := hl.elim (fun h => h) (fun h => absurd hlt h.2)
      obtain ⟨b, hb, hr'⟩ := hr hlt
      exact ⟨b, hb, hr'.sw hi (fun e => by rw [sw_old hi]; exact e)⟩
  | mp id => have hi : id < A.length := of_decide_eq_true hl; obtain ⟨b, hb, hr⟩ := h; exact ⟨b, hb, hr.sw hi (fun e => by rw [sw_old hi]; exact e)⟩
  | clo f fs cs =>
    obtain ⟨x, y, hv, h1, h2⟩ := h
    simp only [cLt, Bool.and_eq_true] at hl
    exact ⟨x, y, hv, all2_sw h1 hl.1, all2_sw h2 hl.2⟩

theorem V1R.sw {Φ : Fz} {A r r' : Objs} {θ : Th} {x : V1} {u : Value} (h : V1R Φ θ (A ++ r) x u) (hl : v1Lt A.length x = true) : V1R Φ (Vm.sw A.length θ) (A ++ r') x u := by
  cases x with
  | one c => exact CR.sw h hl
  | agg cs =>
    obtain ⟨vs, hv, hc⟩ := h
    exact ⟨vs, hv, hc.1, fun i c y hi hy => CR.sw (hc.2 i c y hi hy) (List.all_eq_true.1 hl c (List.mem_of_getElem? hi))⟩

theorem TVR.sw {Φ : Fz} {A r r' : Objs} {θ : Th} {x : TV} {u : Value} (h : TVR Φ θ (A ++ r) x u) (hl : vLt A.length x = true) : TVR Φ (Vm.sw A.length θ) (A ++ r') x u := by
  cases x with
  | v x => exact V1R.sw h hl
  | tup xs =>
    obtain ⟨vs, hv, hc⟩ := h
    exact ⟨vs, hv, hc.1, fun i c y hi hy => V1R.sw (hc.2 i c y hi hy) (List.all_eq_true.1 hl c (List.mem_of_getElem? hi))⟩
  | unk => trivial

def obCells : Ob → List CV
  | .box _ cs => cs
  | .tab l => l.map (·.2)
  | _ => []
def objsLt (n : Nat) (A : Objs) : Prop := ∀ (id : Nat) ob, A[id]? = some ob → ∀ c ∈ obCells ob, cLt n c = true
theorem StR.lt {Φ : Fz} {θ : Th} {base : Nat} {w : World} {env : Env} {objs : Objs} {tmps : Array Value} (h : StR Φ θ base w env objs tmps) : objsLt objs.length objs := by
  intro id ob hob c hc
  have ho := h.ob id _ hob
  cases ob with
  | nil => cases hc
  | arr e k xs => cases hc
  | frz e k xs => cases hc
  | box t cs =>
    obtain ⟨b, cells, _, _, _, hcells, _⟩ := ho
    obtain ⟨i, hi⟩ := List.getElem?_of_mem hc
    obtain ⟨y, _, hr⟩ := hcells.get hi
    exact CR.lt hr
  | tab l =>
    obtain ⟨b, es, ck, _, _, _, hall, _⟩ := ho
    obtain ⟨p, hp, rfl⟩ := List.mem_map.1 hc
    obtain ⟨i, hi⟩ := List.getElem?_of_mem hp
    obtain ⟨y, _, hr⟩ := hall.get hi
    exact CR.lt hr.2

theorem two_get {A : Objs} {z z' : Ob} {id : Nat} {ob : Ob} (h : (A ++ [z, z'])[id]? = some ob) : (id < A.length ∧ A[id]? = some ob) ∨ (id = A.length ∧ ob = z) ∨ (id = A.length + 1 ∧ ob = z') := by
  by_cases hi : id < A.length
  · rw [List.getElem?_append_left hi] at h; exact .inl ⟨hi, h⟩
  · rw [List.getElem?_append_right (by omega)] at h
    obtain ⟨k, hk⟩ : ∃ k, k = id - A.length := ⟨_, rfl⟩
    rw [← hk] at h
    match k, hk, h with
    | 0, hk, h => simp at h; exact .inr (.inl ⟨by omega, h.symm⟩)
    | 1, hk, h => simp at h; exact .inr (.inr ⟨by omega, h.symm⟩)
    | k + 2, hk, h => simp at h

theorem ObR.sw {Φ : Fz} {A r r' : Objs} {θ : Th} {base : Nat} {w : World} {id id' : Nat} {ob : Ob} (h : ObR Φ θ (A ++ r) base w id ob) (hl : ∀ c ∈ obCells ob, cLt A.length c = true) (he : Vm.sw A.length θ id' = θ id) : ObR Φ (Vm.sw A.length θ) (A ++ r') base w id' ob := by
  cases ob with
  | nil => trivial
  | box t cs =>
    obtain ⟨b, cells, h1, h2, h3, h4, h5⟩ := h
    exact ⟨b, cells, by rw [he]; exact h1, h2, h3, ⟨h4.1, fun i c y hi hy => CR.sw (h4.2 i c y hi hy) (hl c (List.mem_of_getElem? hi))⟩, h5⟩
  | tab l =>
    obtain ⟨b, es, ck, h1, h2, h3, h4, h5⟩ := h
    exact ⟨b, es, ck, by rw [he]; exact h1, h2, h3, ⟨h4.1, fun i c y hi hy => ⟨(h4.2 i c y hi hy).1, CR.sw (h4.2 i c y hi hy).2 (hl _ (List.mem_map.2 ⟨c, List.mem_of_getElem? hi, rfl⟩))⟩⟩, h5⟩
  | arr e k xs =>
    obtain ⟨vs, h1, h2, h3, h4, h5⟩ := h
    exact ⟨vs, by rw [he]; exact h1, h2, h3, h4, by rw [he]; exact h5⟩
  | frz e k xs =>
    obtain ⟨h1, h2, h3, h4⟩ := h
    exact ⟨by rw [he]; exact h1, h2, h3, by rw [he]; exact h4⟩

def swi (n id : Nat) : Nat := if id = n then n + 1 else if id = n + 1 then n else id
theorem swi_swi (n i : Nat) : swi n (swi n i) = i := by
  unfold swi
  by_cases h1 : i = n
  · subst h1; simp
  · by_cases h2 : i = n + 1
    · subst h2; simp
    · simp [h1, h2]
theorem swi_inj {n i j : Nat} (h : swi n i = swi n j) : i = j := by
  have := congrArg (swi n) h
  rwa [swi_swi, swi_swi] at this

theorem mblk_sw {A : Objs} {θ : Th} {t1 t2 : Nat} {c1 c2 : List CV} {i b : Nat} (h : mblk (Vm.sw A.length θ) (A ++ [.box t1 c1, .box t2 c2]) i = some b) : mblk θ (A ++ [.box t2 c2, .box t1 c1]) (swi A.length i) = some b := by
  unfold mblk at h ⊢
  cases hob : (A ++ [Ob.box t1 c1, .box t2 c2])[i]? with
  | none => rw [hob] at h; cases h
  | some ob =>
    rw [hob] at h
    rcases two_get hob with ⟨hi, ho⟩ | ⟨rfl, rfl⟩ | ⟨rfl, rfl⟩
    · have e1 : swi A.length i = i := by unfold swi; rw [if_neg (by omega), if_neg (by omega)]
      rw [e1, List.getElem?_append_left hi, ho]
      rw [sw_old hi] at h
      exact h
    · have e1 : swi A.length A.length = A.length + 1 := by unfold swi; rw [if_pos rfl]
      have e2 : (A ++ [Ob.box t2 c2, .box t1 c1])[A.length + 1]? = some (.box t1 c1) := by rw [List.getElem?_append_right (by omega)]; simp
      rw [e1, e2]
      simp only [sw_fst] at h
      exact h
    · have e1 : swi A.length (A.length + 1) = A.length := by unfold swi; rw [if_neg (by omega), if_pos rfl]
      have e2 : (A ++ [Ob.box t2 c2, .box t1 c1])[A.length]? = some (.box t2 c2) := by rw [List.getElem?_append_right (by omega)]; simp
      rw [e1, e2]
      simp only [sw_snd] at h
      exact h

theorem StR.sw {Φ : Fz} {A : Objs} {θ : Th} {base : Nat} {w : World} {t1 t2 : Nat} {c1 c2 : List CV} (h : StR Φ θ base w [] (A ++ [.box t2 c2, .box t1 c1]) #[]) (hA : objsLt A.length A) (h1 : ∀ n, ∀ c ∈ c1, cLt n c = true) (h2 : ∀ n, ∀ c ∈ c2, cLt n c = true) :
    StR Φ (Vm.sw A.length θ) base w [] (A ++ [.box t1 c1, .box t2 c2]) #[] where
  sat := h.sat
  env := All2.nil
  ob := fun id ob ho => by
    rcases two_get ho with ⟨hi, ho'⟩ | ⟨rfl, rfl⟩ | ⟨rfl, rfl⟩
    · exact (h.ob id ob (by rw [List.getElem?_append_left hi]; exact ho')).sw (hA id ob ho') (sw_old hi)
    · exact (h.ob (A.length + 1) _ (by rw [List.getElem?_append_right (by omega)]; simp)).sw (h1 _) (sw_fst _ _)
    · exact (h.ob A.length _ (by rw [List.getElem?_append_right (by omega)]; simp)).sw (h2 _) (sw_snd _ _)
  apart := fun i j b hi hj => swi_inj (h.apart _ _ b (mblk_sw hi) (mblk_sw hj))
  base := h.base

theorem Go2.sw {A r r' : Objs} {θ0 θ : Th} (h : Go2 θ0 θ A (A ++ r)) : Go2 θ0 (Vm.sw A.length θ) A (A ++ r') := by
  intro id s hs
  have hid : id < A.length := by
    obtain ⟨o, ho, _⟩ := Lr_some hs
    exact (List.getElem?_eq_some_iff.1 ho).1
  obtain ⟨s', hs', hr⟩ := h id s hs
  rw [Lr_old hid] at hs'
  refine ⟨s', by rw [Lr_old hid]; exact hs', fun m' hm' => ?_⟩
  obtain ⟨m, h1, h2, h3⟩ := hr m' hm'
  exact ⟨m, h1, h2, fun e => by rw [sw_old hid]; exact h3 e⟩

theorem ptr_box {Φ : Fz} {θ : Th} {objs : Objs} {id t : Nat} {cs : List CV} {u : Value} (ho : objs[id]? = some (.box t cs)) : TVR Φ θ objs (.v (.one (.ptr id 0 0))) u ↔ ∃ b, u = .pointer (some ⟨b, 0, none⟩) ∧ pblk (θ id) = some b := by
  have hL : Lr objs id = some (some 0) := by unfold Lr; rw [ho]; rfl
  constructor
  · rintro ⟨b, hb, s, hs, hr⟩
    rw [hL] at hs; injection hs with hs; subst hs
    exact ⟨b, hb, (hr 0 rfl).2 rfl⟩
  · rintro ⟨b, hb, hp⟩
    exact ⟨b, hb, some 0, hL, fun m hm => by injection hm with hm; subst hm; exact ⟨Nat.le_refl _, fun _ => hp⟩⟩

section
variable {P : Program} {C : Cfg} {ops : Array Oper} {fl : List Bool} {ps : List Nat} {E : Nat → Env} {O : Nat → Objs} {v : Nat → TV} {Φ : Fz} {θ : Th} {base : Nat} {w : World} {df : List Deferred}

def InvS (ops : Array Oper) (E : Nat → Env) (O : Nat → Objs) (v : Nat → TV) (Φ : Fz) (θ : Th) (base : Nat) (w : World) (df : List Deferred) (p : Nat) (z : Ob) (listed : Array Bool) (a' : Act) (w' : World) : Prop :=
  listed.getD p false = false ∧ listed.getD (p + 1) false = true ∧ InvG ops E O Φ θ base w df (O 0 ++ [z]) (fun i => if i = p + 1 then .v (.one (.ptr (O 0).length 0 0)) else v i) listed a' w'

theorem dep_up {listed : Array Bool} (hcl : ∀ k o, ops[k]? = some o → listed.getD k false = true → ∀ e ∈ o.after, Region.binds .any e = true → listed.getD e.on false = true) {k p : Nat} (hk : listed.getD k false = true) (hd : dep ops ops.size k p = true) : listed.getD p false = true :=
  dep_listed (L := fun k => listed.getD k false = true) hcl ops.size k p (fun o' ho' => hcl k o' ho' hk) hd
theorem dep_ready {listed : Array Bool} (hcl : ∀ k o, ops[k]? = some o → listed.getD k false = true → ∀ e ∈ o.after, Region.binds .any e = true → listed.getD e.on false = true) {j p : Nat} (hj : j ∈ Region.ready .any ops listed) (hd : dep ops ops.size j p = true) : listed.getD p false = true := by
  obtain ⟨hun, o, ho, hdeps⟩ := mem_ready.1 hj
  exact dep_listed (L := fun k => listed.getD k false = true) hcl ops.size j p (fun o' ho' => by rw [ho] at ho'; injection ho' with ho'; subst ho'; exact hdeps) hd

structure PairT (C : Cfg) (ops : Array Oper) (fl : List Bool) (O : Nat → Objs) (v : Nat → TV) (p : Nat) (t u : Nat) (c1 c2 : List CV) : Prop where
  l1 : ∀ n, ∀ c ∈ c1, cLt n c = true
  l2 : ∀ n, ∀ c ∈ c2, cLt n c = true
  oo : O (p + 2) = O 0 ++ [.box t c1, .box u c2]
  o0 : ∀ i, i ≤ p → O i = O 0
  v1 : v p = .v (.one (.ptr (O 0).length 0 0))
  v2 : v (p + 1) = .v (.one (.ptr ((O 0).length + 1) 0 0))
  e1 : ∀ o, ops[p]? = some o → o.guard = none ∧ (∀ e, e ∉ o.after) ∧ ∀ env1 objs1, evOp C false o env1 objs1 = some (.v (.one (.ptr objs1.length 0 0)), objs1 ++ [.box t c1])
  e2 : ∀ o, ops[p + 1]? = some o → o.guard = none ∧ (∀ e, e ∉ o.after) ∧ ∀ env1 objs1, evOp C false o env1 objs1 = some (.v (.one (.ptr objs1.length 0 0)), objs1 ++ [.box u c2])
  f1 : (fl.drop p).headD false = false
  f2 : (fl.drop (p + 1)).headD false = false
  lo : ∀ k, k < p → (fl.drop k).headD false = true
  hi : ∀ k, k < ops.size → p + 1 < k → dep ops ops.size k p = true
  sz : p + 1 < ops.size

theorem pair_trace (ht : ∀ j o, ops[j]? = some o → Tr1 C ops fl E O v j o) {p : Nat} (h : pairOk C fl ops p = true) : ∃ t u c1 c2, PairT C ops fl O v p t u c1 c2 := by
  obtain ⟨o, q, t, u, ho, hq, ht1, hu1, hg1, hg2, ha1, ha2, hw1, hw2, hf1, hf2, hlo, hhi⟩ := pairOk_spec h
  have hsz : p + 1 < ops.size := (Array.getElem?_eq_some_iff.1 hq).1
  have hO : ∀ i, i ≤ p → O i = O 0 := fun i hi => tr_still ht i (Nat.zero_le _) (by omega) (fun k _ hk => hlo k (by omega))
  obtain ⟨g1, hgg1, hr1, _, _⟩ := ht p o ho
  obtain ⟨g2, hgg2, hr2, _, _⟩ := ht (p + 1) q hq
  have e1 : g1 = true := by unfold guardOf at hgg1; rw [hg1] at hgg1; simpa using hgg1.symm
  have e2 : g2 = true := by unfold guardOf at hgg2; rw [hg2] at hgg2; simpa using hgg2.symm
  have r1 := hr1 e1
  have r2 := hr2 e2
  rw [hf1] at r1
  rw [hf2] at r2
  obtain ⟨c1, l1, v1, o1, k1⟩ := alloc_ev ht1 hw1 r1
  obtain ⟨c2, l2, v2, o2, k2⟩ := alloc_ev hu1 hw2 r2
  have hOp := hO p (Nat.le_refl _)
  rw [hOp] at v1 o1
  rw [o1] at v2 o2
  refine ⟨t, u, c1, c2, l1, l2, by rw [show p + 2 = p + 1 + 1 from rfl, o2]; simp, hO, v1, by rw [v2]; simp, fun o' ho' => ?_, fun o' ho' => ?_, hf1, hf2, hlo, hhi, hsz⟩
  · rw [ho] at ho'; injection ho' with ho'; subst ho'; exact ⟨hg1, ha1, k1⟩
  · rw [hq] at ho'; injection ho' with ho'; subst ho'; exact ⟨hg2, ha2, k2⟩

theorem step_to (hC : CfgOk P C) (hK : CallsOk P C) (ht : ∀ j o, ops[j]? = some o → Tr1 C ops fl E O v j o) (hT : tmpsOk ops = true) {p t u : Nat} {c1 c2 : List CV} (hp : PairT C ops fl O v p t u c1 c2)
    {listed : Array Bool} {a' : Act} {w' : World} (hI : Inv ops fl E O v Φ θ base w df listed a' w') (hj : p + 1 ∈ Region.ready .any ops listed) (hun : listed.getD p false = false) {K : Act → World → Prop} {Q : Exit → Act → World → Prop}
    (hk : ∀ a'' w'', InvS ops E O v Φ θ base w df p (.box u c2) (listed.setIfInBounds (p + 1) true) a'' w'' → K a'' w'') : wpOp P ops Q (p + 1) K a' w' := by
  obtain ⟨m, hmn, hm, hG⟩ := hI
  have hmp : m ≤ p := by
    rcases Nat.lt_or_ge p m with h | h
    · have := (hm p (by have := hp.sz; omega) hp.f1).1 h; rw [hun] at this; cases this
    · exact h
  rw [hp.o0 m hmp] at hG
  refine step_gen (vv := v) (x := .v (.one (.ptr (O 0).length 0 0))) (OB' := O 0 ++ [.box u c2]) hC hK ht hT hG hj (fun _ _ _ _ _ _ _ _ _ _ => rfl) (fun o g ho hg => ?_) (fun a'' w'' hI' => hk a'' w'' ⟨?_, ?_, hI'⟩)
  · obtain ⟨h1, _, h3⟩ := hp.e2 o ho
    have : g = true := by unfold guardOf at hg; rw [h1] at hg; simpa using hg.symm
    subst this
    exact ⟨fun _ => by rw [hp.f2]; exact h3 _ _, fun h => by cases h⟩
  · rw [getD_set_ne false (by omega)]; exact hun
  · exact getD_set_self (by have := hG.sz; have := hp.sz; omega)

theorem step_in (hC : CfgOk P C) (hK : CallsOk P C) (ht : ∀ j o, ops[j]? = some o → Tr1 C ops fl E O v j o) (hT : tmpsOk ops = true) {p t u : Nat} {c1 c2 : List CV} (hp : PairT C ops fl O v p t u c1 c2) {z : Ob}
    {listed : Array Bool} {a' : Act} {w' : World} (hI : InvS ops E O v Φ θ base w df p z listed a' w') {j : Nat} (hj : j ∈ Region.ready .any ops listed) (hne : j ≠ p) {K : Act → World → Prop} {Q : Exit → Act → World → Prop}
    (hk : ∀ a'' w'', InvS ops E O v Φ θ base w df p z (listed.setIfInBounds j true) a'' w'' → K a'' w'') : wpOp P ops Q j K a' w' := by
  obtain ⟨h1, h2, hG⟩ := hI
  obtain ⟨hun, oj, hoj, hdeps⟩ := mem_ready.1 hj
  have hjn : j < ops.size := (Array.getElem?_eq_some_iff.1 hoj).1
  have hunf := getD_false hun
  have hjq : j ≠ p + 1 := fun e => by subst e; rw [hunf] at h2; cases h2
  have hjp : j < p := by
    rcases Nat.lt_or_ge j p with h | h
    · exact h
    · have := dep_ready hG.closed hj (hp.hi j hjn (by omega))
      rw [h1] at this; cases this
  obtain ⟨g, hg, hrun, hskip, _⟩ := ht j oj hoj
  have hvj : (if j = p + 1 then TV.v (.one (.ptr (O 0).length 0 0)) else v j) = v j := if_neg hjq
  refine step_gen (x := v j) (OB' := O 0 ++ [z]) hC hK ht hT hG hj (fun o i oi t' ho hi hd hij htl hli => ?_) (fun o g' ho hg' => ?_) (fun a'' w'' hI' => hk a'' w'' ⟨?_, ?_, ?_⟩)
  · have : i ≠ p + 1 := fun e => by
      subst e
      rcases ((tmpsOk_spec hT ho).2 _ oi t' hi hd hij).2 htl with ⟨hlt, _⟩ | ⟨_, hdep⟩
      · omega
      · obtain ⟨o', ho', e, he, _, _⟩ := dep_one hdep
        exact (hp.e2 o' ho').2.1 e he
    exact if_neg this
  · rw [hoj] at ho; injection ho with ho; subst ho
    rw [hg] at hg'; injection hg' with hg'; subst hg'
    refine ⟨fun hgt => ?_, fun hgf => ⟨rfl, (hskip hgf).1⟩⟩
    have hr := hrun hgt
    rw [hp.lo j hjp] at hr ⊢
    obtain ⟨hsame, hext⟩ := op_strict hr
    have := hext [z]
    rw [hp.o0 j (by omega)] at this
    exact this
  · rw [getD_set_ne false (by omega)]; exact h1
  · rw [getD_set_ne false (by omega)]; exact h2
  · have e : (fun i => if i = j then v j else if i = p + 1 then TV.v (.one (.ptr (O 0).length 0 0)) else v i) = fun i => if i = p + 1 then TV.v (.one (.ptr (O 0).length 0 0)) else v i := by
      funext i
      by_cases hij : i = j
      · subst hij; rw [if_pos rfl, if_neg hjq]
      · rw [if_neg hij]
    rw [e] at hI'
    exact hI'

theorem step_out (hC : CfgOk P C) (hK : CallsOk P C) (ht : ∀ j o, ops[j]? = some o → Tr1 C ops fl E O v j o) (hT : tmpsOk ops = true) {p t u : Nat} {c1 c2 : List CV} (hp : PairT C ops fl O v p t u c1 c2)
    (hA : objsLt (O 0).length (O 0)) (hE : ∀ (t : Nat) x, (E 0)[t]? = some x → vLt (O 0).length x = true) (hV : ∀ i o t, i < p → ops[i]? = some o → o.dst = some t → t < (E 0).length → vLt (O 0).length (v i) = true)
    {listed : Array Bool} {a' : Act} {w' : World} (hI : InvS ops E O v Φ θ base w df p (.box u c2) listed a' w') (hj : p ∈ Region.ready .any ops listed) {K : Act → World → Prop} {Q : Exit → Act → World → Prop}
    (hk : ∀ a'' w'', Inv ops fl E O v Φ θ base w df (listed.setIfInBounds p true) a'' w'' → K a'' w'') : wpOp P ops Q p K a' w' := by
  obtain ⟨h1, h2, hG⟩ := hI
  have hlen : (O 0 ++ [Ob.box u c2]).length = (O 0).length + 1 := by simp
  have hps : p < listed.size := by have := hG.sz; have := hp.sz; omega
  refine step_gen (x := .v (.one (.ptr ((O 0).length + 1) 0 0))) (OB' := O 0 ++ [.box u c2, .box t c1]) hC hK ht hT hG hj (fun o i oi t' ho hi hd hij htl hli => ?_) (fun o g ho hg => ?_) (fun a'' w'' hI' => hk a'' w'' ⟨p + 2, by have := hp.sz; omega, fun i hi hfi => ?_, ?_⟩)
  · have : i ≠ p + 1 := fun e => by
      subst e
      rcases ((tmpsOk_spec hT ho).2 _ oi t' hi hd hij).2 htl with ⟨hlt, _⟩ | ⟨_, hdep⟩
      · omega
      · obtain ⟨o', ho', e, he, _, _⟩ := dep_one hdep
        exact (hp.e2 o' ho').2.1 e he
    exact if_neg this
  · obtain ⟨g1, _, g3⟩ := hp.e1 o ho
    have : g = true := by unfold guardOf at hg; rw [g1] at hg; simpa using hg.symm
    subst this
    refine ⟨fun _ => ?_, fun h => by cases h⟩
    rw [hp.f1, g3, hlen]
    simp
  · by_cases hip : i = p
    · subst hip
      rw [getD_set_self hps]
      simp
    · rw [getD_set_ne false (Ne.symm hip)]
      constructor
      · intro h
        rcases Nat.lt_or_ge i p with h' | h'
        · rw [hp.lo i h'] at hfi; cases hfi
        · obtain rfl : i = p + 1 := by omega
          exact h2
      · intro h
        rcases Nat.lt_or_ge i (p + 2) with h' | h'
        · exact h'
        · have := dep_up hG.closed h (hp.hi i hi (by omega))
          rw [h1] at this; cases this
  · obtain ⟨hsz, hcl, Φ1, θ1, hgo, hst, hts, hdf, hold, hnew⟩ := hI'
    have b1 : (O 0 ++ [Ob.box u c2, .box t c1])[(O 0).length]? = some (.box u c2) := by rw [List.getElem?_append_right (by omega)]; simp
    have b2 : (O 0 ++ [Ob.box u c2, .box t c1])[(O 0).length + 1]? = some (.box t c1) := by rw [List.getElem?_append_right (by omega)]; simp
    have d1 : (O 0 ++ [Ob.box t c1, .box u c2])[(O 0).length]? = some (.box t c1) := by rw [List.getElem?_append_right (by omega)]; simp
    have d2 : (O 0 ++ [Ob.box t c1, .box u c2])[(O 0).length + 1]? = some (.box u c2) := by rw [List.getElem?_append_right (by omega)]; simp
    rw [hp.oo]
    refine ⟨hsz, hcl, Φ1, sw (O 0).length θ1, ⟨hgo.le, hgo.go.sw, hgo.new, hgo.below⟩, hst.sw hA hp.l1 hp.l2, hts, hdf, fun t' x hx hno u' hu' => TVR.sw (hold t' x hx hno u' hu') (hE t' x hx), fun i o t' hi hd hl u' hu' => ?_⟩
    have hx : TVR Φ1 θ1 (O 0 ++ [.box u c2, .box t c1]) (if i = p then .v (.one (.ptr ((O 0).length + 1) 0 0)) else if i = p + 1 then .v (.one (.ptr (O 0).length 0 0)) else v i) u' := hnew i o t' hi hd hl u' hu'
    have htl : t' < (E 0).length := by rw [← hts]; exact (Array.getElem?_eq_some_iff.1 hu').1
    by_cases hip : i = p
    · subst hip
      rw [if_pos rfl, ptr_box b2] at hx
      rw [hp.v1, ptr_box d1, sw_fst]
      exact hx
    · rw [if_neg hip] at hx
      by_cases hiq : i = p + 1
      · subst hiq
        rw [if_pos rfl, ptr_box b1] at hx
        rw [hp.v2, ptr_box d2, sw_snd]
        exact hx
      · rw [if_neg hiq] at hx
        have hlt : i < p := by
          rcases Nat.lt_or_ge i p with h' | h'
          · exact h'
          · rw [getD_set_ne false (Ne.symm hip)] at hl
            have := dep_up hG.closed hl (hp.hi i (Array.getElem?_eq_some_iff.1 hi).1 (by omega))
            rw [h1] at this; cases this
        exact TVR.sw hx (hV i o t' hlt hi hd htl)
end

theorem count_lt {p q : Nat → Bool} : ∀ {l : List Nat} {j : Nat}, j ∈ l → p j = true → q j = false → (∀ x, q x = true → p x = true) → l.countP q < l.countP p
  | x :: l, j, hj, hp, hq, himp => by
    have hle : l.countP q ≤ l.countP p := List.countP_mono_left fun x _ => himp x
    rcases List.mem_cons.1 hj with rfl | hj
    · rw [List.countP_cons_of_pos hp, List.countP_cons_of_neg (by simp [hq])]; omega
    · have := count_lt hj hp hq himp
      rw [List.countP_cons, List.countP_cons]
      by_cases hqx : q x = true
      · rw [if_pos hqx, if_pos (himp x hqx)]; omega
      · rw [if_neg hqx]; split <;> omega

theorem inv_end (ht : ∀ j o, ops[j]? = some o → Tr1 C ops fl E O v j o) (hT : tmpsOk ops = true) {listed : Array Bool} {a' : Act} {w' : World} (hI : Inv ops fl E O v Φ θ base w df listed a' w') (hr : Region.ready .any ops listed = []) :
    ∃ Φ' θ', Goes Φ θ base w (O 0) Φ' θ' w' (O ops.size) ∧ StR Φ' θ' base w' (E ops.size) (O ops.size) a'.tmps ∧ a'.defers = df := by
  have hall : ∀ n j, j < n → j < ops.size → listed.getD j false = true := by
    intro n
    induction n with
    | zero => intro j h; omega
    | succ n ih =>
      intro j hj hjn
      cases hl : listed.getD j false with
      | true => rfl
      | false =>
        have ho : ops[j]? = some ops[j] := Array.getElem?_eq_getElem hjn
        have hm : j ∈ Region.ready .any ops listed := mem_ready.2 ⟨by
            have hlt : j < listed.size := by rw [hI.choose_spec.2.2.sz]; exact hjn
            simp only [Array.getD_eq_getD_getElem?, Array.getElem?_eq_getElem hlt] at hl ⊢
            exact hl, _, ho, fun e he hb => by
            have := (tmpsOk_spec hT ho).1 e he hb
            exact ih e.on (by omega) (by omega)⟩
        rw [hr] at hm; cases hm
  have hall' : ∀ j, j < ops.size → listed.getD j false = true := fun j hj => hall (j + 1) j (by omega) hj
  obtain ⟨m, hmn, hm, _, _, Φ', θ', hgo, hst, hts, hdf, hold, hnew⟩ := hI
  have hO : O ops.size = O m := tr_still ht ops.size hmn (Nat.le_refl _) (fun i hmi hin => by
    cases hf : (fl.drop i).headD false with
    | true => rfl
    | false => have := (hm i hin hf).2 (hall' i hin); omega)
  refine ⟨Φ', θ', by rw [hO]; exact hgo, ⟨hst.sat, ⟨by rw [tr_len ht _ (Nat.le_refl _)]; simpa using hts.symm, fun t x u hx hu => ?_⟩, by rw [hO]; exact hst.ob, by rw [hO]; exact hst.apart, hst.base⟩, hdf⟩
  rw [hO]
  have hu' : a'.tmps[t]? = some u := by simpa using hu
  by_cases hw : ∃ (i : Nat) (oi : Oper), ops[i]? = some oi ∧ oi.dst = some t
  · obtain ⟨i, oi, hi, hd⟩ := hw
    have hin := (Array.getElem?_eq_some_iff.1 hi).1
    have hl : t < (E 0).length := by
      rw [← tr_len ht ops.size (Nat.le_refl _)]; exact (List.getElem?_eq_some_iff.1 hx).1
    rw [tr_out ht hi hd hl ops.size (Nat.le_refl _) hin (fun k ok hk hne => ((tmpsOk_spec hT hk).2 i oi t hi hd (Ne.symm hne)).1)] at hx
    injection hx with hx; subst hx
    exact hnew i oi t hi hd (hall' i hin) u hu'
  · rw [tr_env ht t ops.size (Nat.le_refl _) (fun i oi _ hi hd => hw ⟨i, oi, hi, hd⟩)] at hx
    exact hold t x hx (fun i oi hi hd => absurd ⟨i, oi, hi, hd⟩ hw) u hu'

theorem inv_any (hC : CfgOk P C) (hK : CallsOk P C) (ht : ∀ j o, ops[j]? = some o → Tr1 C ops fl E O v j o) (hT : tmpsOk ops = true) (hP : ∀ t ∈ ps, ¬ 1000000 ≤ t → ∃ cs, (E 0)[t]? = some (.v (.one (.fp cs)))) (hF : ∀ i, i < ops.size → (fl.drop i).headD false = false → ordOk fl ps ops i = true) (hPF : ∀ p, 1000000 + p ∈ ps → pairOk C fl ops p = true)
    (hA : objsLt (O 0).length (O 0)) (hE : ∀ (t : Nat) x, (E 0)[t]? = some x → vLt (O 0).length x = true) (hV : ∀ p, 1000000 + p ∈ ps → ∀ i o t, i < p → ops[i]? = some o → o.dst = some t → t < (E 0).length → vLt (O 0).length (v i) = true) {Q : Exit → Act → World → Prop}
    (hQ : ∀ Φ' θ' w' a', Goes Φ θ base w (O 0) Φ' θ' w' (O ops.size) → StR Φ' θ' base w' (E ops.size) (O ops.size) a'.tmps → a'.defers = df → Q .normal a' w') :
    ∀ (fuel : Nat) (listed : Array Bool) (a' : Act) (w' : World), (List.range ops.size).countP (fun i => !listed.getD i true) ≤ fuel →
      (Inv ops fl E O v Φ θ base w df listed a' w' ∨ ∃ p t u c1 c2, 1000000 + p ∈ ps ∧ PairT C ops fl O v p t u c1 c2 ∧ InvS ops E O v Φ θ base w df p (.box u c2) listed a' w') → wpAny P .any ops Q fuel listed a' w' := by
  have endI : ∀ (listed : Array Bool) (a' : Act) (w' : World), Region.ready .any ops listed = [] → (Inv ops fl E O v Φ θ base w df listed a' w' ∨ ∃ p t u c1 c2, 1000000 + p ∈ ps ∧ PairT C ops fl O v p t u c1 c2 ∧ InvS ops E O v Φ θ base w df p (.box u c2) listed a' w') → Q .normal a' w' := by
    intro listed a' w' hr hI
    rcases hI with hI | ⟨p, t, u, c1, c2, hp, hpt, hp1, hp2, hG⟩
    · obtain ⟨Φ', θ', h1, h2, h3⟩ := inv_end ht hT hI hr
      exact hQ _ _ _ _ h1 h2 h3
    · have hps := hpt.sz
      have ho : ops[p]? = some ops[p] := Array.getElem?_eq_getElem (by omega)
      have hm : p ∈ Region.ready .any ops listed := mem_ready.2 ⟨by
          have hlt : p < listed.size := by rw [hG.sz]; omega
          simp only [Array.getD_eq_getD_getElem?, Array.getElem?_eq_getElem hlt] at hp1 ⊢
          exact hp1, _, ho, fun e he => absurd he ((hpt.e1 _ ho).2.1 e)⟩
      rw [hr] at hm; cases hm
  have szI : ∀ (listed : Array Bool) (a' : Act) (w' : World), (Inv ops fl E O v Φ θ base w df listed a' w' ∨ ∃ p t u c1 c2, 1000000 + p ∈ ps ∧ PairT C ops fl O v p t u c1 c2 ∧ InvS ops E O v Φ θ base w df p (.box u c2) listed a' w') → listed.size = ops.size := by
    intro listed a' w' hI
    rcases hI with ⟨_, _, _, hG⟩ | ⟨_, _, _, _, _, _, _, _, _, hG⟩ <;> exact hG.sz
  intro fuel
  induction fuel with
  | zero =>
    intro listed a' w' hc hI
    have hr : Region.ready .any ops listed = [] := by
      apply List.eq_nil_iff_forall_not_mem.2
      intro j hj
      obtain ⟨hun, o, ho, _⟩ := mem_ready.1 hj
      have h0 := List.countP_eq_zero.1 (Nat.le_zero.1 hc) j (List.mem_range.2 (Array.getElem?_eq_some_iff.1 ho).1)
      simp [hun] at h0
    exact ⟨hr, endI _ _ _ hr hI⟩
  | succ fuel ih =>
    intro listed a' w' hc hI
    refine ⟨fun hr => endI _ _ _ hr hI, fun j hj => ?_⟩
    have hcount : (List.range ops.size).countP (fun i => !(listed.setIfInBounds j true).getD i true) ≤ fuel := by
      obtain ⟨hun, o, ho, _⟩ := mem_ready.1 hj
      have hjn := (Array.getElem?_eq_some_iff.1 ho).1
      have hsz := szI _ _ _ hI
      have := count_lt (p := fun i => !listed.getD i true) (q := fun i => !(listed.setIfInBounds j true).getD i true) (List.mem_range.2 hjn) (by simp only [hun]; rfl) (by rw [getD_true (getD_set_self (by rw [hsz]; exact hjn))]; rfl) (fun x hx => by
        by_cases hxj : j = x
        · subst hxj
          rw [getD_true (getD_set_self (by rw [hsz]; exact hjn))] at hx; cases hx
        · rw [getD_set_ne true hxj] at hx; exact hx)
      omega
    rcases hI with hI | ⟨p, t, u, c1, c2, hp, hpt, hS⟩
    · by_cases hx : ∃ p, 1000000 + p ∈ ps ∧ j = p + 1 ∧ listed.getD p false = false
      · obtain ⟨p, hp, rfl, hun⟩ := hx
        obtain ⟨t, u, c1, c2, hpt⟩ := pair_trace ht (hPF p hp)
        exact step_to hC hK ht hT hpt hI hj hun fun a'' w'' hI' => ih _ a'' w'' hcount (.inr ⟨p, t, u, c1, c2, hp, hpt, hI'⟩)
      · refine inv_step hC hK ht hT hP hF hPF hI hj (fun p hp e => ?_) fun a'' w'' hI' => ih _ a'' w'' hcount (.inl hI')
        cases hl : listed.getD p false with
        | true => rfl
        | false => exact absurd ⟨p, hp, e, hl⟩ hx
    · by_cases hjp : j = p
      · subst hjp
        exact step_out hC hK ht hT hpt hA hE (hV _ hp) hS hj fun a'' w'' hI' => ih _ a'' w'' hcount (.inl hI')
      · exact step_in hC hK ht hT hpt hS hj hjp fun a'' w'' hI' => ih _ a'' w'' hcount (.inr ⟨p, t, u, c1, c2, hp, hpt, hI'⟩)
end

theorem region_ok0 {P : Program} {C : Cfg} {Φ : Fz} {θ : Th} {base : Nat} {objs objs' : Objs} {env env' : Env} {a : Act} {w : World} (hC : CfgOk P C) (hK : CallsOk P C) (hm : P.follows .mixedOrders = true) {id : Nat} {ops : Array Oper} {draw : Bool} (hs : StR Φ θ base w env objs a.tmps) (hst : stat C (.region id ops draw) = true)
    (hP : ∀ t ∈ pinsOf C id draw, ¬ 1000000 ≤ t → ∃ cs, env[t]? = some (.v (.one (.fp cs)))) (h : evOps C ops (flagsOf C id draw) ops.toList env objs = some (env', objs')) (hchk : chkP ops objs.length (pinsOf C id draw) env' = true) {Q : Exit → Act → World → Prop} (hk : Thn Φ θ base w objs a env' objs' (Q .normal)) : (Code.region id ops draw).wp P Q a w := by
  cases draw with
  | false =>
    refine wp_region ?_
    have := evOps_ok (Q := Q) hC hK ops.toList 0 (by simp) hs h hk
    simpa [List.range_eq_range'] using this
  | true =>
    simp only [stat, Bool.and_eq_true] at hst
    obtain ⟨⟨⟨hT, hS⟩, hPk⟩, hF⟩ := hst
    obtain ⟨E, O, v, hE0, hO0, hE, hO, ht⟩ := trace_of (fl := flagsOf C id true) (ops := ops) ops.toList 0 env objs env' objs' (by simp) (by simpa using h)
    simp only [Array.length_toList, Nat.zero_add] at hE hO
    refine wp_region_any hm ?_
    have hdr : Goes Φ θ base w objs Φ θ w.drew objs := ⟨Le.refl _, Go2.refl _ _, New.refl _ _, (Below.refl _ _).drew⟩
    have hsd : StR Φ θ base w.drew [] objs #[] := by
      have := hs.below (Φ' := Φ) (w' := w.drew) ((Below.refl _ _).drew) (Le.refl _) (New.refl _ _) (hs.sat.below (Below.refl _ _).drew)
      exact ⟨this.sat, All2.nil, this.ob, this.apart, this.base⟩
    have ht' : ∀ j o, ops[j]? = some o → Tr1 C ops (flagsOf C id true) E O v j o := fun j o hj => ht j o (Nat.zero_le _) hj
    have hPF : ∀ p, 1000000 + p ∈ pinsOf C id true → pairOk C (flagsOf C id true) ops p = true := fun p hp => by
      have := List.all_eq_true.1 hPk _ hp
      rw [Nat.add_sub_cancel_left] at this
      simpa using this
    refine inv_any (fl := flagsOf C id true) (ps := pinsOf C id true) (E := E) (O := O) (v := v) (Φ := Φ) (θ := θ) (base := base) (w := w) (df := a.defers) hC hK ht' hT (by rw [hE0]; exact hP) (fun i hi hf => ?_) hPF (by rw [hO0]; exact hs.lt) (fun t x hx => ?_) (fun p hp i o t hip ho hd htl => ?_) (fun Φ' θ' w' a' h1 h2 h3 => ?_) ops.size _ a _ ?_ (.inl ?_)
    · have := List.all_eq_true.1 hF i (List.mem_range.2 hi)
      rw [hf, Bool.false_or] at this
      exact this
    · rw [hE0] at hx; rw [hO0]
      obtain ⟨u, _, hu⟩ := hs.env.get hx
      exact TVR.lt hu
    · have hc := List.all_eq_true.1 hchk _ hp
      rw [Nat.add_sub_cancel_left] at hc
      have h1 : (!decide (1000000 ≤ 1000000 + p)) = false := by simp
      rw [h1, Bool.false_or] at hc
      have hin := (Array.getElem?_eq_some_iff.1 ho).1
      have hmem : o ∈ ops.toList.take p := by
        refine List.mem_of_getElem? (i := i) ?_
        rw [List.getElem?_take_of_lt hip]
        simpa using ho
      have := List.all_eq_true.1 hc o hmem
      rw [hd] at this
      simp only at this
      have hout := tr_out ht' ho hd htl ops.size (Nat.le_refl _) hin (fun k ok hk hne => ((tmpsOk_spec hT hk).2 i o t ho hd (Ne.symm hne)).1)
      rw [hE] at hout
      rw [hout] at this
      rw [hO0]
      exact this
    · rw [hO0, hO] at h1
      rw [hE, hO] at h2
      exact hk Φ' θ' w' a' h1 h2 h3
    · exact Nat.le_trans List.countP_le_length (by simp)
    · refine ⟨0, Nat.zero_le _, fun i hi hf => ?_, by simp, fun k o _ hl => ?_, Φ, θ, by rw [hO0]; exact hdr, by rw [hO0]; exact hsd, by rw [hE0]; simpa using hs.env.1.symm, rfl, fun t x hx _ u hu => ?_, fun i o t _ _ hl => ?_⟩
      · constructor
        · intro h; omega
        · intro hl; exfalso; simp [Array.getElem?_replicate] at hl; split at hl <;> cases hl
      · exfalso; simp [Array.getElem?_replicate] at hl; split at hl <;> cases hl
      · rw [hE0] at hx; rw [hO0]
        exact hs.env.2 t x u hx (by simpa using hu)
      · exfalso; simp [Array.getElem?_replicate] at hl; split at hl <;> cases hl

theorem pin_core {Φ : Fz} {θ : Th} {base : Nat} {objs : Objs} {env : Env} {tmps : Array Value} {w : World} {t id tt : Nat} {cs : List CV} {ds : List DV} (hs : StR Φ θ base w env objs tmps) (ht : env[t]? = some (.v (.one (.ptr id 0 0)))) (hob : objs[id]? = some (.box tt cs))
    (hD : ∀ b cells, θ id = .pointer (some ⟨b, 0, none⟩) → w.heap[b]? = some (.cells cells tt (0, 0)) → All2 (Den Φ) ds cells.toList) :
    ∃ Φ', Goes Φ θ base w objs Φ' θ w (objs.set id .nil) ∧ StR Φ' θ base w (env.set t (.v (.one (.fp ds)))) (objs.set id .nil) tmps ∧ (∃ cs, (env.set t (TV.v (.one (.fp ds))))[t]? = some (.v (.one (.fp cs)))) ∧ ∀ (s : Nat) (cs : List DV), env[s]? = some (TV.v (.one (.fp cs))) → ∃ cs, (env.set t (TV.v (.one (.fp ds))))[s]? = some (.v (.one (.fp cs))) := by
  have htl := (List.getElem?_eq_some_iff.1 ht).1
  obtain ⟨b, cells, hθ, hge, hh, hcells, hno⟩ := hs.ob id _ hob
  obtain ⟨u, hu, hur⟩ := hs.env.get ht
  obtain ⟨b', hb', hv⟩ := ptr_val (Φ := Φ) hur (m := 0) (Lr_of hob) rfl
  rw [hθ] at hb'
  have : b = b' := by simpa [pblk] using hb'
  subst this
  have hden := hD b cells hθ hh
  have hle : Le Φ (addRow Φ b cells.toList) := addRow_le hno
  have hnew : New Φ (addRow Φ b cells.toList) base := fun b' o hb' => by unfold addRow; rw [if_neg (by omega)]
  have hsat : Sat (addRow Φ b cells.toList) w := by
    intro b1 o v1 hv1
    unfold addRow at hv1
    split at hv1
    · rename_i e
      rw [e]
      simp [World.cell?, hh]; simpa using hv1
    · exact hs.sat b1 o v1 hv1
  have hgo : Go2 θ θ objs (objs.set id .nil) := by
    have := go_set (θ := θ) (v := θ id) (ob := .nil) hob (fun m' hm' => by cases hm')
    rwa [thAt_self] at this
  have hlt := (List.getElem?_eq_some_iff.1 hob).1
  have hmb : mblk θ objs id = some b := by unfold mblk; rw [hob, hθ]; rfl
  refine ⟨addRow Φ b cells.toList, ⟨hle, hgo, hnew, Below.refl _ _⟩, ⟨hsat, ⟨by simpa using hs.env.1, fun i x y hx hy => ?_⟩, fun i ob hi => ?_, fun i j b1 hi hj => ?_, hs.base⟩, ⟨ds, by rw [List.getElem?_set_self htl]⟩, fun s cs hs' => ?_⟩
  · by_cases hit : i = t
    · subst hit
      rw [List.getElem?_set_self htl] at hx; injection hx with hx; subst hx
      rw [hu] at hy; injection hy with hy; subst hy
      refine ⟨b, 0, hv, fun j x hj => ?_⟩
      obtain ⟨u1, hu1, hd1⟩ := hden.get hj
      exact ⟨u1, by unfold addRow; rw [if_pos rfl, Nat.zero_add]; exact hu1, hd1.mono hle⟩
    · rw [List.getElem?_set_ne (Ne.symm hit)] at hx
      exact TVR.go hle hgo (hs.env.2 i x y hx hy)
  · by_cases hid : i = id
    · subst hid
      rw [List.getElem?_set_self hlt] at hi; injection hi with hi; subst hi
      trivial
    · rw [List.getElem?_set_ne (Ne.symm hid)] at hi
      refine (hs.ob i ob hi).keep hle hgo rfl (fun b1 hp hk => ⟨rfl, fun o => ?_⟩)
      have hm1 : mblk θ objs i = some b1 := by
        unfold mblk; rw [hi]
        rcases hk with ⟨t, cs, rfl⟩ | ⟨e, k, xs, rfl⟩ | ⟨l, rfl⟩ <;> exact hp
      have : b1 ≠ b := fun e => by subst e; exact hid (hs.apart i id _ hm1 hmb)
      unfold addRow; rw [if_neg this]
  · have key : ∀ i b, mblk θ (objs.set id .nil) i = some b → mblk θ objs i = some b := by
      intro i b hi
      by_cases hid : i = id
      · subst hid
        unfold mblk at hi
        rw [List.getElem?_set_self hlt] at hi; cases hi
      · unfold mblk at hi ⊢
        rwa [List.getElem?_set_ne (Ne.symm hid)] at hi
    exact hs.apart i j b1 (key i b1 hi) (key j b1 hj)
  · by_cases hst : s = t
    · subst hst; exact ⟨ds, by rw [List.getElem?_set_self htl]⟩
    · exact ⟨cs, by rw [List.getElem?_set_ne (Ne.symm hst)]; exact hs'⟩

theorem pinOne_ok {Φ : Fz} {θ : Th} {base : Nat} {objs objs1 : Objs} {env env1 : Env} {tmps : Array Value} {w : World} {t : Nat} (hs : StR Φ θ base w env objs tmps) (h : pinOne t env objs = some (env1, objs1)) :
    ∃ Φ', Goes Φ θ base w objs Φ' θ w objs1 ∧ StR Φ' θ base w env1 objs1 tmps ∧ (∃ cs, env1[t]? = some (.v (.one (.fp cs)))) ∧ ∀ (s : Nat) (cs : List DV), env[s]? = some (TV.v (.one (.fp cs))) → ∃ cs, env1[s]? = some (.v (.one (.fp cs))) := by
  unfold pinOne at h
  split at h
  case h_3 => cases h
  case h_2 cs hx =>
    simp only [Option.some.injEq, Prod.mk.injEq] at h
    obtain ⟨rfl, rfl⟩ := h
    have ht : env[t]? = some (.v (.one (.fp cs))) := by
      unfold rd1 rd at hx
      split at hx
      · rename_i c hc; injection hx with hx; subst hx; exact hc
      · cases hx
    exact ⟨Φ, Goes.refl _ _ _ _ _, hs, ⟨cs, ht⟩, fun s cs h => ⟨cs, h⟩⟩
  case h_1 id hx =>
  split at h
  case h_2 => cases h
  case h_1 tt cs hob =>
  split at h
  case h_2 => cases h
  case h_1 ds hds =>
  simp only [Option.some.injEq, Prod.mk.injEq] at h
  obtain ⟨rfl, rfl⟩ := h
  have ht : env[t]? = some (.v (.one (.ptr id 0 0))) := by
    unfold rd1 rd at hx
    split at hx
    · rename_i c hc; injection hx with hx; subst hx; exact hc
    · cases hx
  obtain ⟨Φ1, hle1, hnew1, hgo1, hs1, hf1⟩ := frzs_ok (a := { tmps := tmps, defers := [] }) cs hs
  have hob1 := hf1.old id _ hob (by intro _ _ _ h; cases h)
  obtain ⟨b, cells, hθ, hge, hh, hcells, hno⟩ := hs.ob id _ hob
  obtain ⟨Φ2, hg2, hs2, h2, h3⟩ := pin_core (ds := ds) hs1 ht hob1 (fun b1 cells1 hθ1 hh1 => by
    have e1 : b1 = b := by rw [hθ] at hθ1; simpa [pblk] using hθ1.symm
    subst e1
    rw [hh] at hh1; injection hh1 with hh1; injection hh1 with hh1; subst hh1
    exact toDVs_ok hs1 hf1 hle1 cs _ ds (fun _ h => h) hcells hds)
  exact ⟨Φ2, Goes.trans ⟨hle1, hgo1, hnew1, Below.refl _ _⟩ hg2, hs2, h2, h3⟩

theorem pinAll_ok {θ : Th} {base : Nat} {tmps : Array Value} {w : World} : ∀ (ts : List Nat) {Φ : Fz} {objs objs1 : Objs} {env env1 : Env}, StR Φ θ base w env objs tmps → pinAll ts env objs = some (env1, objs1) →
    ∃ Φ', Goes Φ θ base w objs Φ' θ w objs1 ∧ StR Φ' θ base w env1 objs1 tmps ∧ (∀ t ∈ ts, ¬ 1000000 ≤ t → ∃ cs, env1[t]? = some (.v (.one (.fp cs)))) ∧ ∀ (s : Nat) (cs : List DV), env[s]? = some (TV.v (.one (.fp cs))) → ∃ cs, env1[s]? = some (.v (.one (.fp cs)))
  | [], Φ, objs, objs1, env, env1, hs, h => by
    simp only [pinAll, Option.some.injEq, Prod.mk.injEq] at h
    obtain ⟨rfl, rfl⟩ := h
    exact ⟨Φ, Goes.refl _ _ _ _ _, hs, fun t h => by simp at h, fun s cs h => ⟨cs, h⟩⟩
  | t :: ts, Φ, objs, objs1, env, env1, hs, h => by
    unfold pinAll at h
    by_cases hmk : 1000000 ≤ t
    · rw [if_pos hmk] at h
      obtain ⟨Φ3, hg3, hs3, ht3, hk3⟩ := pinAll_ok ts hs h
      refine ⟨Φ3, hg3, hs3, fun s hs' hn => ?_, hk3⟩
      rcases List.mem_cons.1 hs' with rfl | hs'
      · exact absurd hmk hn
      · exact ht3 s hs' hn
    rw [if_neg hmk] at h
    split at h
    case h_2 => cases h
    case h_1 env2 objs2 h2 =>
    obtain ⟨Φ2, hg2, hs2, ⟨c2, hc2⟩, hk2⟩ := pinOne_ok hs h2
    obtain ⟨Φ3, hg3, hs3, ht3, hk3⟩ := pinAll_ok ts hs2 h
    refine ⟨Φ3, hg2.trans hg3, hs3, fun s hs' hn => ?_, fun s cs hs' => ?_⟩
    · rcases List.mem_cons.1 hs' with rfl | hs'
      · exact hk3 _ _ hc2
      · exact ht3 s hs' hn
    · obtain ⟨c, hc⟩ := hk2 s cs hs'
      exact hk3 s c hc

theorem region_ok {P : Program} {C : Cfg} {Φ : Fz} {θ : Th} {base : Nat} {objs objs' : Objs} {env env' : Env} {a : Act} {w : World} (hC : CfgOk P C) (hK : CallsOk P C) (hm : P.follows .mixedOrders = true) {id : Nat} {ops : Array Oper} {draw : Bool} (hs : StR Φ θ base w env objs a.tmps) (hst : stat C (.region id ops draw) = true)
    (h : evReg C id ops draw env objs = some (env', objs')) {Q : Exit → Act → World → Prop} (hk : Thn Φ θ base w objs a env' objs' (Q .normal)) : (Code.region id ops draw).wp P Q a w := by
  unfold evReg at h
  split at h
  · rename_i hd
    have hdr : draw = false := by cases draw <;> simp_all
    subst hdr
    refine wp_region ?_
    have := evOpsG_ok (Q := Q) hC hK ops.toList 0 [] (by simp) hs h hk
    simpa [List.range_eq_range'] using this
  obtain ⟨⟨env1, objs1⟩, h1, h2⟩ := Option.bind_eq_some_iff.1 h
  obtain ⟨Φ1, hg1, hs1, hP, _⟩ := pinAll_ok _ hs h1
  simp only at h2
  have h3 : evOps C ops (flagsOf C id draw) ops.toList env1 objs1 = some (env', objs') ∧ chkP ops objs1.length (pinsOf C id draw) env' = true := by
    unfold thenP at h2
    split at h2
    · rename_i hall
      refine ⟨h2, List.all_eq_true.2 fun t ht => ?_⟩
      have := List.all_eq_true.1 hall t ht
      rw [this]; rfl
    · obtain ⟨q, hq, h4⟩ := Option.bind_eq_some_iff.1 h2
      split at h4
      · rename_i hc
        injection h4 with h4
        subst h4
        exact ⟨hq, hc⟩
      · cases h4
  exact region_ok0 hC hK hm hs1 hst hP h3.1 h3.2 fun Φ' θ' w' a' hg hs' hd => hk Φ' θ' w' a' (hg1.trans hg) hs' hd

end Go.Vm

/- Code: the rules for what a piece of code does with a state of the evaluator. -/
set_option linter.unusedVariables false
set_option linter.unusedSimpArgs false
namespace Go.Vm
open Go Go.RowKit

theorem frz1_other {objs : Objs} {c : CV} {i : Nat} (h : refId c ≠ some i) : (frz1 objs c)[i]? = objs[i]? := by
  have main : ∀ id : Nat, refId c = some id → frz1 objs c = (match objs[id]? with | some (.arr e k xs) => objs.set id (.frz e k xs) | _ => objs) → (frz1 objs c)[i]? = objs[i]? := by
    intro id hid he
    have hne : id ≠ i := fun e => h (by rw [hid, e])
    rw [he]
    split
    · rw [List.getElem?_set_ne hne]
    · rfl
  cases c with
  | own id n => exact main id rfl rfl
  | vw id n lo hi k => exact main id rfl rfl
  | _ => rfl

theorem frzs_other {i : Nat} : ∀ (cs : List CV) (objs : Objs), (∀ c ∈ cs, refId c ≠ some i) → (frzs objs cs)[i]? = objs[i]?
  | [], _, _ => rfl
  | c :: cs, objs, h => by
    have he : frzs objs (c :: cs) = frzs (frz1 objs c) cs := rfl
    rw [he, frzs_other cs _ (fun n hn => h n (by simp [hn])), frz1_other (h c (by simp))]

theorem len1_drop {objs : Objs} {L : Nat} {ob : Ob} : len1 (dropO objs L ob) = len1 ob := by cases ob <;> rfl

theorem drop_get {objs : Objs} {L i : Nat} {ob : Ob} : ((objs.take L).map (dropO objs L))[i]? = some ob ↔ i < L ∧ ∃ o, objs[i]? = some o ∧ ob = dropO objs L o := by
  rw [List.getElem?_map, List.getElem?_take]
  split
  · rename_i h
    simp only [Option.map_eq_some_iff]
    constructor
    · rintro ⟨o, ho, rfl⟩; exact ⟨h, o, ho, rfl⟩
    · rintro ⟨_, o, ho, rfl⟩; exact ⟨o, ho, rfl⟩
  · rename_i h
    simp only [Option.map_none]
    constructor
    · intro h'; cases h'
    · rintro ⟨h', _⟩; exact absurd h' h

theorem Lr_drop {objs : Objs} {L i : Nat} (h : i < L) : Lr ((objs.take L).map (dropO objs L)) i = Lr objs i := by
  unfold Lr
  rw [List.getElem?_map, List.getElem?_take, if_pos h]
  cases objs[i]? with
  | none => rfl
  | some o => simp [-dropO, len1_drop]

theorem mask_get {vars : List Nat} : ∀ (env : Env) (i t : Nat) (x : TV), (maskE vars i env)[t]? = some x → ∃ y, env[t]? = some y ∧ (x = y ∨ x = .unk)
  | [], i, t, x, h => by simp [maskE] at h
  | v :: vs, i, 0, x, h => by
    simp [maskE] at h
    refine ⟨v, rfl, ?_⟩
    split at h
    · exact .inl h.symm
    · exact .inr h.symm
  | v :: vs, i, t + 1, x, h => by
    simp only [maskE, List.getElem?_cons_succ] at h ⊢
    exact mask_get vs (i + 1) t x h

theorem mask_len {vars : List Nat} : ∀ (env : Env) (i : Nat), (maskE vars i env).length = env.length
  | [], _ => rfl
  | _ :: vs, i => by simp [maskE, mask_len vs]

section
variable {P : Program} {Φ : Fz} {θ : Th} {base : Nat} {objs : Objs} {env : Env} {a : Act} {w : World} {C : Cfg}

theorem settle_ok (L : Nat) (hs : StR Φ θ base w env objs a.tmps) : ∃ Φ', Le Φ Φ' ∧ New Φ Φ' base ∧ StR Φ' θ base w (settle C L env objs).1 (settle C L env objs).2 a.tmps ∧
    ∀ θ0 (o : Objs), o.length ≤ L → Go2 θ0 θ o objs → Go2 θ0 θ o (settle C L env objs).2 := by
  obtain ⟨cs, hcs⟩ : ∃ cs : List CV, cs = (List.range objs.length).filterMap (fun id => if L ≤ id then some (CV.own id 0) else none) := ⟨_, rfl⟩
  obtain ⟨Φ1, hle, hnew, hgo, hs1, hf⟩ := frzs_ok cs hs
  have hlow : ∀ i, i < L → (frzs objs cs)[i]? = objs[i]? := fun i hi => frzs_other cs objs (fun c hn hc => by
    rw [hcs] at hn
    obtain ⟨id, _, h⟩ := List.mem_filterMap.1 hn
    split at h
    · injection h with h; subst h; injection hc with hc; omega
    · cases h)
  have hhigh : ∀ i n, L ≤ i → i < objs.length → ∀ v x, CR Φ θ objs (.own i n) v → toDV objs (.own i n) = some x → Den Φ1 x v := by
    intro i n hi hil v x hr h
    simp only [toDV] at h
    split at h
    · rename_i e k xs ho
      split at h
      · rename_i hl
        injection h with h; subst h
        have hv := own_val hr (Lr_of ho) hl.symm
        have := hs1.ob i _ (hf.own (.own i 0) (by rw [hcs]; exact List.mem_filterMap.2 ⟨i, List.mem_range.2 hil, by rw [if_pos hi]⟩) i rfl e k xs ho)
        rw [hv]; exact this.1
      · cases h
    · rename_i e k xs ho
      split at h
      · rename_i hl
        injection h with h; subst h
        have hv := own_val hr (Lr_of ho) hl.symm
        have := hs1.ob i _ (hf.old i _ ho (by intro _ _ _ h; cases h))
        rw [hv]; exact this.1
      · cases h
    · cases h
  obtain ⟨objs2, hobjs2⟩ : ∃ o, o = (settle C L env objs).2 := ⟨_, rfl⟩
  have ho2 : objs2 = (objs.take L).map (dropO objs L) := hobjs2
  have hLr : ∀ i, i < L → Lr objs2 i = Lr objs i := fun i hi => by rw [ho2]; exact Lr_drop hi
  have hcr : ∀ c v, CR Φ θ objs c v → CR Φ1 θ objs2 (dropC objs L c) v := by
    intro c v hr
    cases c with
    | d x => exact Den.mono hle hr
    | own id n =>
      simp only [dropC]
      split
      · rename_i hid
        obtain ⟨h1, s, hs', h2⟩ := hr
        exact ⟨h1, s, by rw [hLr id hid]; exact hs', h2⟩
      · rename_i hid
        have hil : id < objs.length := by
          obtain ⟨_, s, hs', _⟩ := hr
          obtain ⟨o, ho, _⟩ := Lr_some hs'
          exact (List.getElem?_eq_some_iff.1 ho).1
        split
        · rename_i x hx
          exact hhigh id n (by omega) hil v x hr hx
        · exact CR.one hr
    | ptr id n off =>
      simp only [dropC]
      split
      · rename_i hid
        obtain ⟨b, h1, s, hs', h2⟩ := hr
        exact ⟨b, h1, s, by rw [hLr id hid]; exact hs', h2⟩
      · exact CR.one hr
    | mp id =>
      simp only [dropC]
      split
      · rename_i hid
        obtain ⟨b, h1, s, hs', h2⟩ := hr
        exact ⟨b, h1, s, by rw [hLr id hid]; exact hs', h2⟩
      · exact CR.one hr
    | fp cs =>
      obtain ⟨b, o, hv, hc⟩ := hr
      exact ⟨b, o, hv, fun i x hx => let ⟨u, hu, hd⟩ := hc i x hx; ⟨u, hle _ _ _ hu, hd.mono hle⟩⟩
    | unk => exact hr
    | nil => exact hr
    | unkB => exact hr
    | vw id n lo hi k =>
      simp only [dropC]
      split
      · rename_i hid
        obtain ⟨h1, h2, ad, c, hv, hc, h0, h3⟩ := hr
        refine ⟨h1, h2, ad, c, hv, hc, fun hz => ?_, fun hlt => ?_⟩
        · obtain ⟨s, hs', h4⟩ := h0 hz
          exact ⟨s, by rw [hLr id hid]; exact hs', h4⟩
        obtain ⟨b, hb, s, hs', h4⟩ := h3 hlt
        exact ⟨b, hb, s, by rw [hLr id hid]; exact hs', h4⟩
      · rename_i hid
        split
        · rename_i x hx
          have hil : id < objs.length := by
            simp only [toDV] at hx
            cases ho : objs[id]? with
            | none => rw [ho] at hx; cases hx
            | some ob => exact (List.getElem?_eq_some_iff.1 ho).1
          have hmem : CV.own id 0 ∈ cs := by rw [hcs]; exact List.mem_filterMap.2 ⟨id, List.mem_range.2 hil, by rw [if_pos (by omega)]⟩
          have hfr : Frz objs (frzs objs cs) (CV.vw id n lo hi k :: cs) := ⟨fun c hc i hi e k xs ho => by
              rcases List.mem_cons.1 hc with rfl | hc
              · injection hi with hi; subst hi; exact hf.own _ hmem id rfl e k xs ho
              · exact hf.own c hc i hi e k xs ho, hf.old, hf.arr⟩
          exact toDV_ok hs1 hfr hle (List.mem_cons_self ..) hr hx
        · exact CR.one hr
    | clo f fs cs =>
      simp only [dropC]
      split
      · rename_i hp
        obtain ⟨x, y, hv, h1, h2⟩ := hr
        have hlt : ∀ p ∈ fs ++ cs, p.1 < L := fun p hp' => by simpa using List.all_eq_true.1 hp p hp'
        have one : ∀ (l : List (Nat × Nat)) (us : List Value), (∀ p ∈ l, p.1 < L) → All2 (PtR θ objs) l us → All2 (PtR θ objs2) l us := fun l us hl h => ⟨h.1, fun i p u hp hu => by
          obtain ⟨b, h1, s, hs', h2⟩ := h.2 i p u hp hu
          exact ⟨b, h1, s, by rw [hLr p.1 (hl p (List.mem_of_getElem? hp))]; exact hs', h2⟩⟩
        exact ⟨x, y, hv, one _ _ (fun p hp' => hlt p (List.mem_append_left _ hp')) h1, one _ _ (fun p hp' => hlt p (List.mem_append_right _ hp')) h2⟩
      · exact CR.one hr
  have hall : ∀ cs (vs : List Value), All2 (CR Φ θ objs) cs vs → All2 (CR Φ1 θ objs2) (cs.map (dropC objs L)) vs := fun cs vs h => All2.map_left (h.imp hcr)
  have hv1 : ∀ x v, V1R Φ θ objs x v → V1R Φ1 θ objs2 (match x with | .one c => .one (dropC objs L c) | .agg cs => .agg (cs.map (dropC objs L))) v := by
    intro x v h
    cases x with
    | one c => exact hcr c v h
    | agg cs => obtain ⟨vs, hv, hc⟩ := h; exact ⟨vs, hv, hall _ _ hc⟩
  have htv : ∀ x v, TVR Φ θ objs x v → TVR Φ1 θ objs2 (dropV objs L x) v := by
    intro x v h
    cases x with
    | v x =>
      cases x with
      | one c => exact hcr c v h
      | agg cs => obtain ⟨vs, hv, hc⟩ := h; exact ⟨vs, hv, hall _ _ hc⟩
    | tup vs =>
      obtain ⟨us, hu, hc⟩ := h
      exact ⟨us, hu, All2.map_left (hc.imp hv1)⟩
    | unk => trivial
  have hmb : ∀ i b, mblk θ objs2 i = some b → mblk θ (frzs objs cs) i = some b := by
    intro i b h
    obtain ⟨ob, hob, hp, hk⟩ := mblk_some h
    rw [ho2, drop_get] at hob
    obtain ⟨hi, o, ho, rfl⟩ := hob
    unfold mblk
    rw [hlow i hi, ho]
    rcases hk with ⟨t', cs', hk⟩ | ⟨e, k, xs, hk⟩ | ⟨l, hk⟩
    · cases o <;> first | (cases hk; done) | exact hp
    · cases o <;> first | (cases hk; done) | exact hp
    · cases o <;> first | (cases hk; done) | exact hp
  refine ⟨Φ1, hle, hnew, ?_, fun θ0 o hol hg id s hids => ?_⟩
  · show StR Φ1 θ base w (settle C L env objs).1 (settle C L env objs).2 a.tmps
    rw [← hobjs2]
    refine ⟨hs1.sat, ⟨by simp [settle, mask_len, hs.env.1], fun t x u hx hu => ?_⟩, fun id ob hid => ?_, fun i j b hi hj => hs1.apart i j b (hmb i b hi) (hmb j b hj), hs.base⟩
    · simp only [settle, List.getElem?_map, Option.map_eq_some_iff] at hx
      obtain ⟨y, hy, rfl⟩ := hx
      obtain ⟨z, hz, hyz⟩ := mask_get _ _ _ _ hy
      rcases hyz with rfl | rfl
      · exact htv _ _ (hs.env.2 t _ u hz hu)
      · trivial
    · rw [ho2, drop_get] at hid
      obtain ⟨hi, o, ho, rfl⟩ := hid
      have h1 := hs1.ob id o (by rw [hlow id hi]; exact ho)
      cases o with
      | nil => trivial
      | box t cells =>
        obtain ⟨b, arr, hθ, hge, hb, _, hn⟩ := h1
        obtain ⟨b', arr', hθ', _, hb', hc', _⟩ := hs.ob id _ ho
        rw [hθ] at hθ'
        have : b = b' := by simpa using hθ'
        subst this
        rw [hb] at hb'
        have : arr = arr' := by simpa using (Option.some.inj hb' : Obj.cells arr t (0, 0) = Obj.cells arr' t (0, 0)) |> fun h => by injection h
        subst this
        exact ⟨b, arr, hθ, hge, hb, hall _ _ hc', hn⟩
      | arr e k xs => exact h1
      | tab l =>
        obtain ⟨b, es, ck, hθ, hge, hb, _, hn⟩ := h1
        obtain ⟨b', es', ck', hθ', _, hb', hc', _⟩ := hs.ob id _ ho
        rw [hθ] at hθ'
        have : b = b' := by simpa using hθ'
        subst this
        rw [hb] at hb'
        have he : es = es' ∧ ck = ck' := by simpa using (Option.some.inj hb' : Obj.map es ck = Obj.map es' ck') |> fun h => by injection h with h1 h2; exact ⟨h1, h2⟩
        obtain ⟨rfl, rfl⟩ := he
        exact ⟨b, es, ck, hθ, hge, hb, All2.map_left (hc'.imp fun p e h => ⟨h.1, hcr _ _ h.2⟩), hn⟩
      | frz e k xs => exact h1
  · rw [← hobjs2]
    have hid : id < L := by
      obtain ⟨ob, hob, _⟩ := Lr_some hids
      have := (List.getElem?_eq_some_iff.1 hob).1; omega
    obtain ⟨s', hs', h⟩ := hg id s hids
    exact ⟨s', by rw [hLr id hid]; exact hs', h⟩
end

def exitOf : Ex → Exit
  | .normal => .normal
  | .ret => .ret
  | .exit i => .exit i
  | .goto l => .goto l

def A (P : Program) (c : Code) (Q : Ex → Env → Objs → Prop) (env : Env) (objs : Objs) : Prop :=
  ∀ (Φ : Fz) (θ : Th) (base : Nat) (w : World) (a : Act), StR Φ θ base w env objs a.tmps → ∀ Q' : Exit → Act → World → Prop,
    (∀ e env' objs' Φ' θ' w' a', Q e env' objs' → Goes Φ θ base w objs Φ' θ' w' objs' → StR Φ' θ' base w' env' objs' a'.tmps → a'.defers = a.defers → Q' (exitOf e) a' w') → c.wp P Q' a w

section
variable {P : Program} {C : Cfg} {Q Q' : Ex → Env → Objs → Prop} {env : Env} {objs : Objs}

theorem A.mono {c : Code} (h : A P c Q env objs) (hq : ∀ e env' objs', Q e env' objs' → Q' e env' objs') : A P c Q' env objs :=
  fun Φ θ base w a hs R hR => h Φ θ base w a hs R fun e env' objs' Φ' θ' w' a' hq' => hR e env' objs' Φ' θ' w' a' (hq _ _ _ hq')

theorem A_skip (h : Q .normal env objs) : A P .skip Q env objs := fun Φ θ base w a hs R hR => wp_skip (hR .normal env objs Φ θ w a h (Goes.refl _ _ _ _ _) hs rfl)
theorem A_label {l : Nat} (h : Q .normal env objs) : A P (.label l) Q env objs := fun Φ θ base w a hs R hR => wp_label (hR .normal env objs Φ θ w a h (Goes.refl _ _ _ _ _) hs rfl)
theorem A_exit {i : Nat} (h : Q (.exit i) env objs) : A P (.exit i) Q env objs := fun Φ θ base w a hs R hR => wp_exit (hR (.exit i) env objs Φ θ w a h (Goes.refl _ _ _ _ _) hs rfl)
theorem A_goto {i : Nat} (h : Q (.goto i) env objs) : A P (.goto i) Q env objs := fun Φ θ base w a hs R hR => wp_goto (hR (.goto i) env objs Φ θ w a h (Goes.refl _ _ _ _ _) hs rfl)
theorem A_ret (h : Q .ret env objs) : A P .ret Q env objs := fun Φ θ base w a hs R hR => wp_ret (hR .ret env objs Φ θ w a h (Goes.refl _ _ _ _ _) hs rfl)

def Ex.then (K Q : Ex → Env → Objs → Prop) : Ex → Env → Objs → Prop
  | .normal, env, objs => K .normal env objs
  | e, env, objs => Q e env objs

theorem A_seq {x y : Code} (h : A P x (Ex.then (fun _ => A P y Q) Q) env objs) : A P (.seq x y) Q env objs := by
  intro Φ θ base w a hs R hR
  refine wp_seq (h Φ θ base w a hs _ fun e env' objs' Φ' θ' w' a' hq hg hs' hd => ?_)
  cases e with
  | normal => exact hq Φ' θ' base w' a' hs' R fun e2 env2 objs2 Φ2 θ2 w2 a2 hq2 hg2 hs2 hd2 => hR e2 env2 objs2 Φ2 θ2 w2 a2 hq2 (hg.trans hg2) hs2 (hd2.trans hd)
  | ret => exact hR .ret env' objs' Φ' θ' w' a' hq hg hs' hd
  | exit i => exact hR (.exit i) env' objs' Φ' θ' w' a' hq hg hs' hd
  | goto i => exact hR (.goto i) env' objs' Φ' θ' w' a' hq hg hs' hd

theorem A_cond {x : Operand} {c d : Code} {b : Bool} (hx : rdB env x = some b) (h : (b = true → A P c Q env objs) ∧ (b = false → A P d Q env objs)) : A P (.cond x c d) Q env objs := by
  intro Φ θ base w a hs R hR
  refine wp_cond (rdB_ok hs.env hx) ?_
  cases b with
  | true => exact h.1 rfl Φ θ base w a hs R hR
  | false => exact h.2 rfl Φ θ base w a hs R hR

def Ex.blk (id : Nat) (Q : Ex → Env → Objs → Prop) : Ex → Env → Objs → Prop
  | .exit i, env, objs => if i = id then Q .normal env objs else Q (.exit i) env objs
  | e, env, objs => Q e env objs

theorem A_block {id : Nat} {c : Code} (h : A P c (Ex.blk id Q) env objs) : A P (.block id c) Q env objs := by
  intro Φ θ base w a hs R hR
  refine wp_block (h Φ θ base w a hs _ fun e env' objs' Φ' θ' w' a' hq hg hs' hd => ?_)
  cases e with
  | normal => exact hR .normal env' objs' Φ' θ' w' a' hq hg hs' hd
  | ret => exact hR .ret env' objs' Φ' θ' w' a' hq hg hs' hd
  | goto i => exact hR (.goto i) env' objs' Φ' θ' w' a' hq hg hs' hd
  | exit i =>
    simp only [Ex.blk] at hq
    show Exit.inBlock id R (.exit i) a' w'
    unfold Exit.inBlock
    split at hq
    · rename_i h; subst h; simp only [if_true]; exact hR .normal env' objs' Φ' θ' w' a' hq hg hs' hd
    · rename_i h; simp only [h, if_false]; exact hR (.exit i) env' objs' Φ' θ' w' a' hq hg hs' hd

theorem A_region (hC : CfgOk P C) (hK : CallsOk P C) (hm : P.follows .mixedOrders = true) {id : Nat} {ops : Array Oper} {draw : Bool} (hst : stat C (.region id ops draw) = true) {env' : Env} {objs' : Objs}
    (h : evReg C id ops draw env objs = some (env', objs')) (hq : Q .normal env' objs') : A P (.region id ops draw) Q env objs :=
  fun Φ θ base w a hs R hR => region_ok hC hK hm hs hst h fun Φ' θ' w' a' hg hs' hd => hR .normal env' objs' Φ' θ' w' a' hq hg hs' hd

theorem A_loop {c : Code} (L : Nat) (R : Nat → Env → Objs → Prop) (hL : objs.length = L) (h0 : ∃ n, R n (settle C L env objs).1 (settle C L env objs).2)
    (hstep : ∀ n env objs, R n env objs → A P c (Ex.then (fun _ env' objs' => ∃ m, m < n ∧ R m (settle C L env' objs').1 (settle C L env' objs').2) Q) env objs) : A P (.loop c) Q env objs := by
  intro Φ θ base w a hs R' hR'
  obtain ⟨n, hn⟩ := h0
  obtain ⟨Φ0, hle0, hnew0, hs0, hgo0⟩ := settle_ok (C := C) L hs
  have key : ∀ (N n : Nat), n ≤ N → ∀ (env1 : Env) (objs1 : Objs), R n env1 objs1 → ∀ Φ1 θ1 w1 (a1 : Act), Goes Φ θ base w objs Φ1 θ1 w1 objs1 → StR Φ1 θ1 base w1 env1 objs1 a1.tmps → a1.defers = a.defers → Code.rounds P c R' (N + 1) a1 w1 := by
    intro N
    induction N with
    | zero =>
      intro n hnN env1 objs1 hr Φ1 θ1 w1 a1 hg1 hs1 hd1
      have : n = 0 := by omega
      subst this
      rw [rounds_succ]
      refine hstep 0 env1 objs1 hr Φ1 θ1 base w1 a1 hs1 _ fun e env2 objs2 Φ2 θ2 w2 a2 hq hg2 hs2 hd2 => ?_
      cases e with
      | normal => obtain ⟨m, hm, _⟩ := hq; omega
      | ret => exact hR' .ret env2 objs2 Φ2 θ2 w2 a2 hq (hg1.trans hg2) hs2 (hd2.trans hd1)
      | exit i => exact hR' (.exit i) env2 objs2 Φ2 θ2 w2 a2 hq (hg1.trans hg2) hs2 (hd2.trans hd1)
      | goto i => exact hR' (.goto i) env2 objs2 Φ2 θ2 w2 a2 hq (hg1.trans hg2) hs2 (hd2.trans hd1)
    | succ N ih =>
      intro n hnN env1 objs1 hr Φ1 θ1 w1 a1 hg1 hs1 hd1
      rw [rounds_succ]
      refine hstep n env1 objs1 hr Φ1 θ1 base w1 a1 hs1 _ fun e env2 objs2 Φ2 θ2 w2 a2 hq hg2 hs2 hd2 => ?_
      cases e with
      | normal =>
        obtain ⟨m, hm, hr2⟩ := hq
        obtain ⟨Φ3, hle3, hnew3, hs3, hgo3⟩ := settle_ok (C := C) L hs2
        have hg := hg1.trans hg2
        exact ih m (by omega) _ _ hr2 Φ3 θ2 w2 a2 ⟨hg.le.trans hle3, hgo3 θ objs (by omega) hg.go, fun b o hb => (hnew3 b o hb).trans (hg.new b o hb), hg.below⟩ hs3 (hd2.trans hd1)
      | ret => exact hR' .ret env2 objs2 Φ2 θ2 w2 a2 hq (hg1.trans hg2) hs2 (hd2.trans hd1)
      | exit i => exact hR' (.exit i) env2 objs2 Φ2 θ2 w2 a2 hq (hg1.trans hg2) hs2 (hd2.trans hd1)
      | goto i => exact hR' (.goto i) env2 objs2 Φ2 θ2 w2 a2 hq (hg1.trans hg2) hs2 (hd2.trans hd1)
  exact wp_loop_rounds (n + 1) (key n n (Nat.le_refl _) _ _ hn Φ0 θ w a ⟨hle0, hgo0 θ objs (by omega) (Go2.refl _ _), hnew0, Below.refl _ _⟩ hs0 rfl)

theorem A_scope {c : Code} (L : Nat) (R : Nat → Code → Env → Objs → Prop) (hL : objs.length = L) (h0 : ∃ n, R n c env objs)
    (hstep : ∀ n d env objs, R n d env objs → A P d (fun e env' objs' => match e with
      | .goto l => match findLabel c l with
        | some rest => ∃ m, m < n ∧ R m rest (settle C L env' objs').1 (settle C L env' objs').2
        | none => Q (.goto l) env' objs'
      | e => Q e env' objs') env objs) : A P (.scope c) Q env objs := by
  intro Φ θ base w a hs R' hR' b k cs
  obtain ⟨n, hn⟩ := h0
  have key : ∀ (N n : Nat), n ≤ N → ∀ (d : Code) (env1 : Env) (objs1 : Objs), R n d env1 objs1 → ∀ Φ1 θ1 w1 (a1 : Act), Goes Φ θ base w objs Φ1 θ1 w1 objs1 → StR Φ1 θ1 base w1 env1 objs1 a1.tmps → a1.defers = a.defers →
      ∃ e a' w', R' e a' w' ∧ Arrives P (lone (b.at a1 (.code d :: .inScope c :: k)) cs w1) b k cs e a' w' := by
    intro N
    induction N with
    | zero => ?_
    | succ N ih => ?_
    all_goals
      intro n hnN d env1 objs1 hr Φ1 θ1 w1 a1 hg1 hs1 hd1
      have h := hstep n d env1 objs1 hr Φ1 θ1 base w1 a1 hs1 (fun e a' w' => match e with
        | .goto l => match findLabel c l with
          | some rest => ∃ m env2 objs2 Φ2 θ2, m < n ∧ R m rest env2 objs2 ∧ Goes Φ θ base w objs Φ2 θ2 w' objs2 ∧ StR Φ2 θ2 base w' env2 objs2 a'.tmps ∧ a'.defers = a.defers
          | none => R' (.goto l) a' w'
        | e => R' e a' w') (fun e env2 objs2 Φ2 θ2 w2 a2 hq hg2 hs2 hd2 => by
          have hg := hg1.trans hg2
          cases e with
          | normal => exact hR' .normal env2 objs2 Φ2 θ2 w2 a2 hq hg hs2 (hd2.trans hd1)
          | ret => exact hR' .ret env2 objs2 Φ2 θ2 w2 a2 hq hg hs2 (hd2.trans hd1)
          | exit i => exact hR' (.exit i) env2 objs2 Φ2 θ2 w2 a2 hq hg hs2 (hd2.trans hd1)
          | goto l =>
            simp only at hq
            split at hq
            · rename_i rest hrest
              obtain ⟨m, hm, hr2⟩ := hq
              obtain ⟨Φ3, hle3, hnew3, hs3, hgo3⟩ := settle_ok (C := C) L hs2
              simp only [exitOf, hrest]
              exact ⟨m, _, _, Φ3, θ2, hm, hr2, ⟨hg.le.trans hle3, hgo3 θ objs (by omega) hg.go, fun b o hb => (hnew3 b o hb).trans (hg.new b o hb), hg.below⟩, hs3, hd2.trans hd1⟩
            · rename_i hrest
              simp only [exitOf, hrest]
              exact hR' (.goto l) env2 objs2 Φ2 θ2 w2 a2 hq hg hs2 (hd2.trans hd1)) b (.inScope c :: k) cs
      obtain ⟨e, a2, w2, hq, harr⟩ := h
      cases e with
      | normal => exact ⟨.normal, a2, w2, hq, Steps.trans harr (.one step_inScope)⟩
      | exit id => exact ⟨.exit id, a2, w2, hq, fun k' hk => harr k' (by simp [exitTo, hk])⟩
      | goto l =>
        simp only at hq
        split at hq
        · rename_i rest hrest
          obtain ⟨m, env2, objs2, Φ2, θ2, hm, hr2, hg2, hs2, hd2⟩ := hq
          first
          | (exfalso; omega)
          | (obtain ⟨e3, a3, w3, hq3, harr3⟩ := ih m (by omega) rest env2 objs2 hr2 Φ2 θ2 w2 a2 hg2 hs2 hd2
             exact ⟨e3, a3, w3, hq3, .of_steps (harr _ (by simp [gotoIn, hrest])) harr3⟩)
        · rename_i hrest
          exact ⟨.goto l, a2, w2, hq, fun k' hk => harr k' (by simp [gotoIn, hrest, hk])⟩
      | ret => exact ⟨_, a2, w2, hq, harr⟩
      | panic ch => exact ⟨_, a2, w2, hq, harr⟩
      | outgrown => exact ⟨_, a2, w2, hq, harr⟩
  obtain ⟨e, a', w', hq, harr⟩ := key n n (Nat.le_refl _) c env objs hn Φ θ w a (Goes.refl _ _ _ _ _) hs rfl
  exact ⟨e, a', w', hq, .of_steps (.one step_scope) harr⟩
end
end Go.Vm

/- Functions: from the rules for their code to their contracts. -/
set_option linter.unusedVariables false
set_option linter.unusedSimpArgs false
namespace Go.Vm
open Go Go.RowKit

section
variable {P : Program} {Φ : Fz} {θ : Th} {base : Nat} {objs : Objs} {env : Env} {a : Act} {w : World} {C : Cfg}

theorem resVs_ok (hC : CfgOk P C) (hs : StR Φ θ base w env objs a.tmps) (f : ResultVar → Sem Value) (hf : ∀ u, f (.tmp u) = pure (a.tmps.getD u undef)) (hc : ∀ p t, f (.cell p t) = (do loadVar t (← asAddr (a.tmps.getD p undef)))) :
    ∀ (rs : List ResultVar) (vs : List V1), resVs C env objs rs = some vs → ∃ us, All2 (V1R Φ θ objs) vs us ∧ (rs.mapM f).run P w = .ok us w
  | [], vs, h => by
    simp [resVs] at h; subst h
    exact ⟨[], All2.nil, by simp⟩
  | r :: rs, vs, h => by
    unfold resVs at h
    split at h
    case h_2 => cases h
    case h_1 v vs' hv hvs =>
    injection h with h; subst h
    obtain ⟨us, hall, hrun⟩ := resVs_ok hC hs f hf hc rs vs' hvs
    have key : ∃ u, V1R Φ θ objs v u ∧ (f r).run P w = .ok u w := by
      cases r with
      | tmp t =>
        simp only [resV] at hv
        split at hv
        case h_2 => cases hv
        case h_1 x hx =>
        injection hv with hv; subst hv
        obtain ⟨u, hu, hr⟩ := hs.env.get hx
        have hu' : a.tmps[t]? = some u := by simpa using hu
        refine ⟨u, hr, ?_⟩
        rw [hf]
        simp [hu']
      | cell p t =>
        simp only [resV] at hv
        split at hv
        case h_2 => cases hv
        case h_1 c ti hp hti =>
        split at hv
        case h_2 => cases hv
        case h_1 cs hcs =>
        split at hv
        case h_2 => cases hv
        case h_1 x hx =>
        injection hv with hv; subst hv
        obtain ⟨u, hu, hr⟩ := hs.env.get hp
        have hu' : a.tmps[p]? = some u := by simpa using hu
        obtain ⟨b, off, us', rfl, hall', hlen, hat⟩ := loadC_ok hs hr hcs
        obtain ⟨h1, h2⟩ := run_loadVar (hC.ty _ _ hti) hat hlen
        have hga : a.tmps.getD p undef = .pointer (some ⟨b, off, none⟩) := by simp [hu']
        unfold mk1 at hx
        split at hx
        · rename_i hag
          injection hx with hx; injection hx with hx; subst hx
          refine ⟨.agg us'.toArray, ⟨us', rfl, hall'⟩, ?_⟩
          rw [hc, hga]
          simp [asAddr, h1 hag]
        · rename_i hag
          split at hx
          · rename_i c'
            injection hx with hx; injection hx with hx; subst hx
            obtain ⟨z, m, rfl, hz, hm⟩ := hall'.cons_left
            have := hm.nil_left; subst this
            refine ⟨z, hz, ?_⟩
            rw [hc, hga]
            simp [asAddr, h2 (by simpa using hag) z rfl]
          · cases hx
    obtain ⟨u, hr, hu⟩ := key
    exact ⟨u :: us, All2.cons hr hall, by rw [List.mapM_cons]; simp [hu, hrun]⟩

def resF (tmps : Array Value) : ResultVar → Sem Value
  | .tmp t => pure (tmps.getD t undef)
  | .cell p t => do loadVar t (← asAddr (tmps.getD p undef))

theorem results_eq (fn : Func) (tmps : Array Value) : results fn tmps = (do let vs ← fn.results.mapM (resF tmps); pure (if h : vs.size = 1 then vs[0] else .tuple vs)) := by
  unfold results
  congr 1

theorem results_ok (hC : CfgOk P C) (hs : StR Φ θ base w env objs a.tmps) {fn : Func} {vs : List V1} (h : resVs C env objs fn.results.toList = some vs) : ∃ us, All2 (V1R Φ θ objs) vs us ∧ (results fn a.tmps).run P w = .ok (packU us) w := by
  obtain ⟨us, hall, hrun⟩ := resVs_ok hC hs (resF a.tmps) (fun u => rfl) (fun p t => rfl) _ _ h
  refine ⟨us, hall, ?_⟩
  rw [results_eq, show fn.results = fn.results.toList.toArray by simp, List.mapM_toArray]
  simp only [Sem.run_bind, Sem.run_map]
  rw [hrun]
  match us with
  | [] => simp [packU]
  | [x] => simp [packU]
  | x :: y :: l => simp [packU]

def idsOf (v : V1) : List Nat := (v1cells v).filterMap (fun | .own id _ => some id | .vw id _ _ _ _ => some id | _ => none)

theorem ownIds_cons (v : V1) (vs : List V1) : ownIds (v :: vs) = idsOf v ++ ownIds vs := rfl

theorem mem_idsOf {v : V1} {id : Nat} {c : CV} (h : c ∈ v1cells v) (hc : refId c = some id) : id ∈ idsOf v := List.mem_filterMap.2 ⟨c, h, by cases c <;> first | exact hc | cases hc⟩

def ownRes (C : Cfg) (i : Nat) : V1 → Bool
  | .one (.own _ _) => C.ores.contains i
  | _ => false

def nonown (C : Cfg) : Nat → List V1 → List CV
  | _, [] => []
  | i, v :: vs => (if ownRes C i v then [] else v1cells v) ++ nonown C (i + 1) vs

def ownOut (C : Cfg) : Nat → List V1 → List Nat
  | _, [] => []
  | i, v :: vs => (if ownRes C i v then idsOf v else []) ++ ownOut C (i + 1) vs

theorem ownOut_sub {C : Cfg} {id : Nat} : ∀ (vs : List V1) (i : Nat), id ∈ ownOut C i vs → id ∈ ownIds vs
  | [], i, h => by simp [ownOut] at h
  | v :: vs, i, h => by
    rw [ownIds_cons, List.mem_append]
    unfold ownOut at h
    rcases List.mem_append.1 h with h | h
    · split at h
      · exact .inl h
      · simp at h
    · exact .inr (ownOut_sub vs (i + 1) h)

theorem nonown_sub {C : Cfg} {id : Nat} {c : CV} (hc : refId c = some id) : ∀ (vs : List V1) (i : Nat), c ∈ nonown C i vs → id ∈ ownIds vs
  | [], i, h => by simp [nonown] at h
  | v :: vs, i, h => by
    rw [ownIds_cons, List.mem_append]
    unfold nonown at h
    rcases List.mem_append.1 h with h | h
    · split at h
      · simp at h
      · exact .inl (mem_idsOf h hc)
    · exact .inr (nonown_sub hc vs (i + 1) h)

theorem nonown_apart {C : Cfg} {id : Nat} {c : CV} (hc : refId c = some id) : ∀ (vs : List V1) (i : Nat), (ownIds vs).Nodup → id ∈ ownOut C i vs → c ∉ nonown C i vs
  | [], i, _, h => by simp [ownOut] at h
  | v :: vs, i, hN, h => by
    rw [ownIds_cons, List.nodup_append] at hN
    obtain ⟨_, hN2, hd⟩ := hN
    intro hm
    unfold ownOut at h
    unfold nonown at hm
    rcases List.mem_append.1 h with h | h
    · split at h
      · rename_i ho
        rw [if_pos ho] at hm
        exact hd id h id (nonown_sub hc vs (i + 1) (by simpa using hm)) rfl
      · simp at h
    · rcases List.mem_append.1 hm with hm | hm
      · split at hm
        · simp at hm
        · exact hd id (mem_idsOf hm hc) id (ownOut_sub vs (i + 1) h) rfl
      · exact nonown_apart hc vs (i + 1) hN2 h hm

theorem resRs_ok {Φ1 : Fz} {objs1 : Objs} {cs : List CV} (hs : StR Φ θ base w env objs a.tmps) (hs1 : StR Φ1 θ base w env objs1 a.tmps) (hf : Frz objs objs1 cs) (hle : Le Φ Φ1) : ∀ (vs : List V1) (i : Nat) (us : List Value) (rs : List RV), All2 (V1R Φ θ objs) vs us → resRs C objs i vs = some rs →
    (∀ c ∈ nonown C i vs, c ∈ cs) → (∀ id ∈ ownOut C i vs, objs1[id]? = objs[id]?) → All2 (RVR Φ1 w base) rs us ∧ ∀ (j : Nat) r u, rs[j]? = some r → r.isOwn = true → us[j]? = some u → ∃ id, id ∈ (vs[j]?.elim [] idsOf) ∧ u = θ id ∧ ∃ e k xs, objs1[id]? = some (Ob.arr e k xs)
  | [], i, us, rs, hr, h, _, _ => by
    have := hr.nil_left; subst this
    simp [resRs] at h; subst h
    exact ⟨All2.nil, fun j r u h => by simp at h⟩
  | v :: vs, i, us, rs, hr, h, hc, ho => by
    obtain ⟨u, us', rfl, h1, h2⟩ := hr.cons_left
    unfold resRs at h
    split at h
    case h_2 => cases h
    case h_1 r rs' hr1 hrs =>
    injection h with h; subst h
    obtain ⟨g1, g2⟩ := resRs_ok hs hs1 hf hle vs (i + 1) us' rs' h2 hrs (fun c hc' => hc c (by unfold nonown; simp [-v1cells, hc'])) (fun id hid => ho id (by unfold ownOut; simp [hid]))
    have key : RVR Φ1 w base r u ∧ (r.isOwn = true → ∃ id, id ∈ idsOf v ∧ u = θ id ∧ ∃ e k xs, objs1[id]? = some (Ob.arr e k xs)) := by
      have plain : ∀ c, c ∈ v1cells v → ownRes C i v = false → c ∈ cs := fun c hm hn => hc c (by unfold nonown; rw [hn]; simp [-v1cells, hm])
      unfold resR at hr1
      split at hr1
      case h_1 id n =>
        have hcr : CR Φ θ objs (.own id n) u := h1
        split at hr1
        case h_3 => cases hr1
        case h_1 e k xs hob =>
          split at hr1
          case isFalse => cases hr1
          case isTrue hl =>
          split at hr1
          case isTrue hcon =>
            injection hr1 with hr1; subst hr1
            have hob1 : objs1[id]? = some (.arr e k xs) := by rw [ho id (by unfold ownOut; simp [ownRes, idsOf, v1cells]; exact .inl (by simpa using hcon))]; exact hob
            obtain ⟨vs', hrow, hd, hlen, hk0, hno⟩ := hs1.ob id _ hob1
            have hv := own_val hcr (Lr_of hob) hl.symm
            refine ⟨⟨vs', by rw [hv]; exact hrow, hd, hlen, hk0, by rw [hv]; exact hno⟩, fun _ => ⟨id, by simp [idsOf, v1cells], hv, e, k, xs, hob1⟩⟩
          case isFalse hcon =>
            injection hr1 with hr1; subst hr1
            refine ⟨toDV_ok hs1 hf hle (plain (.own id n) (by simp [v1cells]) (by simpa [ownRes] using hcon)) hcr (by simp [toDV, hob, hl]), fun h => by simp [RV.isOwn] at h⟩
        case h_2 e k xs hob =>
          split at hr1
          case isFalse => cases hr1
          case isTrue hl =>
          injection hr1 with hr1; subst hr1
          refine ⟨toDV_ok hs1 hf hle (plain (.own id n) (by simp [v1cells]) (by simpa [ownRes] using hl.2)) hcr (by simp [toDV, hob, hl.1]), fun h => by simp [RV.isOwn] at h⟩
      case h_2 c hne =>
        simp only [Option.map_eq_some_iff] at hr1
        obtain ⟨x, hx, rfl⟩ := hr1
        have hno : ownRes C i (.one c) = false := by cases c <;> first | rfl | (exact absurd rfl (hne _ _))
        exact ⟨toDV_ok hs1 hf hle (plain c (by simp [v1cells]) hno) (show CR Φ θ objs c u from h1) hx, fun h => by simp [RV.isOwn] at h⟩
      case h_3 l =>
        simp only [Option.map_eq_some_iff] at hr1
        obtain ⟨ys, hy, rfl⟩ := hr1
        obtain ⟨vs', rfl, hall⟩ := h1
        exact ⟨⟨vs', rfl, toDVs_ok hs1 hf hle l vs' ys (fun c hm => plain c (by simpa [v1cells] using hm) rfl) hall hy⟩, fun h => by simp [RV.isOwn] at h⟩
    refine ⟨All2.cons key.1 g1, fun j r' u' hr' hown hu' => ?_⟩
    cases j with
    | zero => simp at hr' hu'; subst hr'; subst hu'; simpa using key.2 hown
    | succ j => simpa using g2 j r' u' (by simpa using hr') hown (by simpa using hu')

theorem ids_dup {id : Nat} : ∀ (vs : List V1) (i j : Nat) , i < j → id ∈ (vs[i]?.elim [] idsOf) → id ∈ (vs[j]?.elim [] idsOf) → ¬ (ownIds vs).Nodup
  | [], i, j, _, h, _ => by simp at h
  | v :: vs, 0, j + 1, hij, h1, h2 => by
    rw [ownIds_cons, List.nodup_append]
    rintro ⟨_, hnd, hd⟩
    simp at h1 h2
    refine hd id h1 id ?_ rfl
    clear hd h1 hij hnd
    induction vs generalizing j with
    | nil => simp at h2
    | cons x xs ih =>
      rw [ownIds_cons, List.mem_append]
      cases j with
      | zero => simp at h2; exact .inl h2
      | succ j => simp at h2; exact .inr (ih j h2)
  | v :: vs, i + 1, j + 1, hij, h1, h2 => by
    rw [ownIds_cons, List.nodup_append]
    rintro ⟨_, hN, _⟩
    exact ids_dup vs i j (by omega) (by simpa using h1) (by simpa using h2) hN

theorem evRes_ok (hC : CfgOk P C) (hs : StR Φ θ base w env objs a.tmps) {fn : Func} {rs : List RV} (h : evRes C fn.results.toList env objs = some rs) :
    ∃ us Φ', (results fn a.tmps).run P w = .ok (packU us) w ∧ Le Φ Φ' ∧ New Φ Φ' base ∧ Sat Φ' w ∧ All2 (RVR Φ' w base) rs us ∧ OwnApart rs us := by
  unfold evRes at h
  split at h
  case h_2 => cases h
  case h_1 vs hvs =>
  split at h
  case isFalse => cases h
  case isTrue hN =>
  obtain ⟨us, hall, hrun⟩ := results_ok hC hs hvs
  obtain ⟨Φ1, hle, hnew, hg, hs1, hf⟩ := frzs_ok (nonown C 0 vs) hs
  have hout : ∀ id ∈ ownOut C 0 vs, (frzs objs (nonown C 0 vs))[id]? = objs[id]? := fun id hid => by
    rcases hN with h0 | hN
    · exfalso
      have : ∀ (l : List V1) (i : Nat), ownOut C i l = [] := by
        intro l
        induction l with
        | nil => intro i; rfl
        | cons x xs ih => intro i; unfold ownOut; rw [ih]; cases x <;> simp [ownRes, h0]; rename_i c; cases c <;> simp [ownRes, h0]
      rw [this] at hid; simp at hid
    · exact frzs_other _ _ (fun c hc hr => nonown_apart hr vs 0 hN hid hc)
  obtain ⟨h1, h2⟩ := resRs_ok hs hs1 hf hle vs 0 us rs hall h (fun c hc => hc) hout
  refine ⟨us, Φ1, hrun, hle, hnew, hs1.sat, h1, fun i j b r s u v hij hr hro hs' hso hu hv hb hb2 => ?_⟩
  obtain ⟨id, hid, hu2, e, k, xs, hob⟩ := h2 i r u hr hro hu
  obtain ⟨id2, hid2, hv2, e2, k2, xs2, hob2⟩ := h2 j s v hs' hso hv
  have hm1 : mblk θ (frzs objs (nonown C 0 vs)) id = some b := by unfold mblk; rw [hob]; rw [← hu2]; exact hb
  have hm2 : mblk θ (frzs objs (nonown C 0 vs)) id2 = some b := by unfold mblk; rw [hob2]; rw [← hv2]; exact hb2
  have := hs1.apart id id2 b hm1 hm2
  subst this
  rcases hN with h0 | hN
  · -- no own results at all
    have : ∀ (l : List V1) (i : Nat) (rs : List RV), resRs C objs i l = some rs → ∀ r ∈ rs, r.isOwn = false := by
      intro l
      induction l with
      | nil => intro i rs h; simp [resRs] at h; subst h; intro r hr; simp at hr
      | cons x xs ih =>
        intro i rs h
        unfold resRs at h
        split at h
        case h_2 => cases h
        case h_1 r0 rs0 hr0 hrs0 =>
        injection h with h; subst h
        intro r hr
        rcases List.mem_cons.1 hr with rfl | hr
        · unfold resR at hr0
          split at hr0
          · split at hr0
            · split at hr0
              · simp [h0] at hr0; subst hr0; rfl
              · cases hr0
            · split at hr0
              · injection hr0 with hr0; subst hr0; rfl
              · cases hr0
            · cases hr0
          · simp only [Option.map_eq_some_iff] at hr0; obtain ⟨_, _, rfl⟩ := hr0; rfl
          · simp only [Option.map_eq_some_iff] at hr0; obtain ⟨_, _, rfl⟩ := hr0; rfl
        · exact ih (i + 1) rs0 hrs0 r hr
    rw [this vs 0 rs h r (List.mem_of_getElem? hr)] at hro; cases hro
  · rcases Nat.lt_or_gt_of_ne hij with hlt | hlt
    · exact ids_dup vs i j hlt hid hid2 hN
    · exact ids_dup vs j i hlt hid2 hid hN

end

theorem env0_ok {Φ : Fz} {θ : Th} {n : Nat} {das : List DA} {args : List Value} (h : All2 (DAR Φ) das args) : All2 (TVR Φ θ []) (env0 das n) (args.toArray ++ Array.replicate (n - args.toArray.size) undef).toList := by
  have h1 : All2 (TVR Φ θ []) (das.map argV) args := All2.map_left (h.imp fun d v hd => by
    cases d with
    | one x => exact hd
    | agg cs => obtain ⟨vs, hv, hc⟩ := hd; exact ⟨vs, hv, ddv_ok hc⟩)
  have h2 : (args.toArray ++ Array.replicate (n - args.toArray.size) undef).toList = args ++ List.replicate (n - das.length) undef := by
    simp [h.1]
  rw [h2]
  exact h1.append (All2.replicate undef_ok)

def Ends (C : Cfg) (fn : Func) (rs : List RV) (e : Ex) (env : Env) (objs : Objs) : Prop := (e = .normal ∨ e = .ret) ∧ evRes C fn.results.toList env objs = some rs

theorem callC_of_A {P : Program} {C : Cfg} (hC : CfgOk P C) {f : Nat} {fn : Func} {c : Code} (hf : P.funcs[f]? = some fn) (hb : fn.body = some c) {F : List DA → Option (List RV)}
    (h : ∀ das rs, F das = some rs → A P c (Ends C fn rs) (env0 das fn.ntmps) []) : CallC P f F := by
  intro Φ w das args rs hsat hda hF
  refine calls_of_wp hf hb ?_
  have hs : StR Φ (fun _ => undef) w.heap.size w (env0 das fn.ntmps) [] (args.toArray ++ Array.replicate (fn.ntmps - args.toArray.size) undef) :=
    ⟨hsat, env0_ok hda, fun id ob h => by simp at h, fun i j b h => by simp [mblk] at h, Nat.le_refl _⟩
  refine h das rs hF Φ (fun _ => undef) w.heap.size w { tmps := args.toArray ++ Array.replicate (fn.ntmps - args.toArray.size) undef, defers := [] } hs _ fun e env' objs' Φ' θ' w' a' hq hg hs' hd => ?_
  obtain ⟨he, hres⟩ := hq
  obtain ⟨us, Φ2, hrun, hle, hnew, hsat2, hall, hap⟩ := evRes_ok hC hs' hres
  have fin : bodyPost P fn (fun e w' => ∃ v Φ', e = .returned v ∧ Below w.heap.size w w' ∧ Le Φ Φ' ∧ New Φ Φ' w.heap.size ∧ Sat Φ' w' ∧ RVsR Φ' w' w.heap.size rs v) .ret a' w' :=
    ⟨hd, _, hrun, _, Φ2, rfl, hg.below, hg.le.trans hle, fun b o hb => (hnew b o hb).trans (hg.new b o hb), hsat2, us, rfl, hall, hap⟩
  rcases he with rfl | rfl
  · exact fin
  · exact fin

def envI (vs : List V1) (n : Nat) : Env := vs.map TV.v ++ List.replicate (n - vs.length) (.tup [])

def EndsI (C : Cfg) (fn : Func) (v : TV) (objs' : Objs) (e : Ex) (env : Env) (objs : Objs) : Prop := (e = .normal ∨ e = .ret) ∧ ∃ vs, resVs C env objs fn.results.toList = some vs ∧ v = packV vs ∧ objs' = objs

theorem inlC_of_A {P : Program} {C : Cfg} (hC : CfgOk P C) {f : Nat} {fn : Func} {c : Code} (hf : P.funcs[f]? = some fn) (hb : fn.body = some c) {F : List V1 → Objs → Option (TV × Objs)}
    (h : ∀ vs objs v objs', F vs objs = some (v, objs') → A P c (EndsI C fn v objs') (envI vs fn.ntmps) objs) : InlC P f F := by
  intro Φ θ base w objs vs args v objs' hs hda hF
  refine calls_of_wp hf hb ?_
  have henv : All2 (TVR Φ θ objs) (envI vs fn.ntmps) (args.toArray ++ Array.replicate (fn.ntmps - args.toArray.size) undef).toList := by
    have h2 : (args.toArray ++ Array.replicate (fn.ntmps - args.toArray.size) undef).toList = args ++ List.replicate (fn.ntmps - vs.length) undef := by simp [hda.1]
    rw [h2]
    exact All2.append (All2.map_left (R := TVR Φ θ objs) (f := TV.v) (hda.imp fun _ _ hx => hx)) (All2.replicate undef_ok)
  refine h vs objs v objs' hF Φ θ base w { tmps := args.toArray ++ Array.replicate (fn.ntmps - args.toArray.size) undef, defers := [] } ⟨hs.sat, henv, hs.ob, hs.apart, hs.base⟩ _ fun e env' objs1 Φ' θ' w' a' hq hg hs' hd => ?_
  obtain ⟨he, vs', hres, rfl, rfl⟩ := hq
  obtain ⟨us, hall, hrun⟩ := results_ok hC hs' hres
  have fin : bodyPost P fn (fun e w' => ∃ u Φ' θ', e = .returned u ∧ Goes Φ θ base w objs Φ' θ' w' objs' ∧ StR Φ' θ' base w' [] objs' #[] ∧ TVR Φ' θ' objs' (packV vs') u) .ret a' w' :=
    ⟨hd, _, hrun, _, Φ', θ', rfl, hg, ⟨hs'.sat, All2.nil, hs'.ob, hs'.apart, hs'.base⟩, packV_ok hall⟩
  rcases he with rfl | rfl
  · exact fin
  · exact fin

theorem stat_find {C : Cfg} : ∀ (c : Code) (l : Nat) (rest : Code), stat C c = true → findLabel c l = some rest → stat C rest = true
  | .seq x y, l, rest, h, hf => by
    simp only [stat, Bool.and_eq_true] at h
    simp only [findLabel] at hf
    split at hf
    · rename_i r hr
      injection hf with hf; subst hf
      simp only [stat, Bool.and_eq_true]
      exact ⟨stat_find x l r h.1 hr, h.2⟩
    · exact stat_find y l rest h.2 hf
  | .label l', l, rest, h, hf => by
    simp only [findLabel] at hf
    split at hf
    · injection hf with hf; subst hf; rfl
    · cases hf
  | .skip, _, _, _, hf | .region .., _, _, _, hf | .cond .., _, _, _, hf | .loop .., _, _, _, hf | .block .., _, _, _, hf | .exit .., _, _, _, hf | .goto .., _, _, _, hf | .ret, _, _, _, hf | .scope .., _, _, _, hf => by simp [findLabel] at hf

end Go.Vm

/- Closed runs: what the evaluator's own run of code says. -/
set_option linter.unusedVariables false
set_option linter.unusedSimpArgs false
namespace Go.Vm
open Go Go.RowKit

section
variable {P : Program} {C : Cfg}

def Is (e : Ex) (env : Env) (objs : Objs) (e1 : Ex) (env1 : Env) (objs1 : Objs) : Prop := e1 = e ∧ env1 = env ∧ objs1 = objs

theorem evCode_ok (hC : CfgOk P C) (hK : CallsOk P C) (hm : P.follows .mixedOrders = true) : ∀ (n : Nat) (c : Code) (env : Env) (objs : Objs) (e : Ex) (env' : Env) (objs' : Objs), stat C c = true → evCode C n c env objs = some (e, env', objs') → A P c (Is e env' objs') env objs
  | 0, c, env, objs, e, env', objs', _, h => by simp [evCode] at h
  | n + 1, c, env, objs, e, env', objs', hst, h => by
    unfold evCode at h
    cases c with
    | skip => simp only [Option.some.injEq, Prod.mk.injEq] at h; obtain ⟨rfl, rfl, rfl⟩ := h; exact A_skip ⟨rfl, rfl, rfl⟩
    | label l => simp only [Option.some.injEq, Prod.mk.injEq] at h; obtain ⟨rfl, rfl, rfl⟩ := h; exact A_label ⟨rfl, rfl, rfl⟩
    | exit l => simp only [Option.some.injEq, Prod.mk.injEq] at h; obtain ⟨rfl, rfl, rfl⟩ := h; exact A_exit ⟨rfl, rfl, rfl⟩
    | goto l => simp only [Option.some.injEq, Prod.mk.injEq] at h; obtain ⟨rfl, rfl, rfl⟩ := h; exact A_goto ⟨rfl, rfl, rfl⟩
    | ret => simp only [Option.some.injEq, Prod.mk.injEq] at h; obtain ⟨rfl, rfl, rfl⟩ := h; exact A_ret ⟨rfl, rfl, rfl⟩
    | refuse _ => cases h
    | rangeFunc _ _ _ _ => cases h
    | region id ops draw =>
      simp only [Option.map_eq_some_iff] at h
      obtain ⟨⟨env1, objs1⟩, h1, h2⟩ := h
      simp only [Prod.mk.injEq] at h2
      obtain ⟨rfl, rfl, rfl⟩ := h2
      exact A_region hC hK hm hst h1 ⟨rfl, rfl, rfl⟩
    | seq x y =>
      simp only [stat, Bool.and_eq_true] at hst
      simp only at h
      refine A_seq ?_
      split at h
      · rename_i env1 objs1 h1
        refine (evCode_ok hC hK hm n x env objs _ _ _ hst.1 h1).mono fun e2 env2 objs2 hq => ?_
        obtain ⟨rfl, rfl, rfl⟩ := hq
        exact evCode_ok hC hK hm n y _ _ _ _ _ hst.2 h
      · rename_i hne
        refine (evCode_ok hC hK hm n x env objs _ _ _ hst.1 h).mono fun e2 env2 objs2 hq => ?_
        obtain ⟨rfl, rfl, rfl⟩ := hq
        cases e2 with
        | normal => exact absurd h (hne _ _)
        | ret => exact ⟨rfl, rfl, rfl⟩
        | exit i => exact ⟨rfl, rfl, rfl⟩
        | goto i => exact ⟨rfl, rfl, rfl⟩
    | cond x a b =>
      simp only [stat, Bool.and_eq_true] at hst
      simp only at h
      split at h
      · rename_i hx
        exact A_cond hx ⟨fun _ => evCode_ok hC hK hm n a _ _ _ _ _ hst.1 h, fun h => by cases h⟩
      · rename_i hx
        exact A_cond hx ⟨fun h => (by cases h), fun _ => evCode_ok hC hK hm n b _ _ _ _ _ hst.2 h⟩
      · cases h
    | block id b =>
      simp only at h
      refine A_block ?_
      split at h
      · rename_i i env1 objs1 h1
        refine (evCode_ok hC hK hm n b env objs _ _ _ hst h1).mono fun e2 env2 objs2 hq => ?_
        obtain ⟨rfl, rfl, rfl⟩ := hq
        simp only [Ex.blk]
        split at h
        · rename_i hi
          simp only [Option.some.injEq, Prod.mk.injEq] at h
          obtain ⟨rfl, rfl, rfl⟩ := h
          rw [if_pos hi]; exact ⟨rfl, rfl, rfl⟩
        · rename_i hi
          simp only [Option.some.injEq, Prod.mk.injEq] at h
          obtain ⟨rfl, rfl, rfl⟩ := h
          rw [if_neg hi]; exact ⟨rfl, rfl, rfl⟩
      · rename_i hne
        refine (evCode_ok hC hK hm n b env objs _ _ _ hst h).mono fun e2 env2 objs2 hq => ?_
        obtain ⟨rfl, rfl, rfl⟩ := hq
        cases e2 with
        | exit i => exact absurd h (hne _ _ _)
        | ret => exact ⟨rfl, rfl, rfl⟩
        | normal => exact ⟨rfl, rfl, rfl⟩
        | goto i => exact ⟨rfl, rfl, rfl⟩
    | loop b =>
      simp only at h
      refine A_loop (C := C) objs.length (fun m env1 objs1 => (match evCode C n b env1 objs1 with
        | some (.normal, env2, objs2) => loopIter C objs.length (evCode C n b) m env2 objs2
        | r => r) = some (e, env', objs')) rfl ?_ ?_
      · cases n with
        | zero => simp [loopIter] at h
        | succ k => exact ⟨k, h⟩
      · intro m env1 objs1 hr
        split at hr
        · rename_i env2 objs2 h1
          refine (evCode_ok hC hK hm n b env1 objs1 _ _ _ hst h1).mono fun e3 env3 objs3 hq => ?_
          obtain ⟨rfl, rfl, rfl⟩ := hq
          cases m with
          | zero => simp [loopIter] at hr
          | succ k => exact ⟨k, by omega, hr⟩
        · rename_i hne
          refine (evCode_ok hC hK hm n b env1 objs1 _ _ _ hst hr).mono fun e3 env3 objs3 hq => ?_
          obtain ⟨rfl, rfl, rfl⟩ := hq
          cases e3 with
          | normal => exact absurd hr (hne _ _)
          | exit i => exact ⟨rfl, rfl, rfl⟩
          | ret => exact ⟨rfl, rfl, rfl⟩
          | goto i => exact ⟨rfl, rfl, rfl⟩
    | scope b =>
      simp only at h
      refine A_scope (C := C) objs.length (fun m d env1 objs1 => stat C d = true ∧ scopeIter C objs.length (evCode C n) b m d env1 objs1 = some (e, env', objs')) rfl ⟨n, hst, h⟩ ?_
      intro m d env1 objs1 hr
      obtain ⟨hsd, hr⟩ := hr
      cases m with
      | zero => simp [scopeIter] at hr
      | succ k =>
        unfold scopeIter at hr
        split at hr
        · rename_i l env2 objs2 h1
          refine (evCode_ok hC hK hm n d env1 objs1 _ _ _ hsd h1).mono fun e3 env3 objs3 hq => ?_
          obtain ⟨rfl, rfl, rfl⟩ := hq
          simp only
          split at hr
          · rename_i rest hrest
            simp only [hrest]
            exact ⟨k, by omega, stat_find b l rest hst hrest, hr⟩
          · rename_i hrest
            simp only [hrest]
            simp only [Option.some.injEq, Prod.mk.injEq] at hr
            obtain ⟨rfl, rfl, rfl⟩ := hr
            exact ⟨rfl, rfl, rfl⟩
        · rename_i hne
          refine (evCode_ok hC hK hm n d env1 objs1 _ _ _ hsd hr).mono fun e3 env3 objs3 hq => ?_
          obtain ⟨rfl, rfl, rfl⟩ := hq
          cases e3 with
          | normal => exact ⟨rfl, rfl, rfl⟩
          | exit i => exact ⟨rfl, rfl, rfl⟩
          | ret => exact ⟨rfl, rfl, rfl⟩
          | goto i => exact absurd hr (hne _ _ _)

theorem callC_of_ev (hC : CfgOk P C) (hK : CallsOk P C) (hm : P.follows .mixedOrders = true) {f : Nat} {fn : Func} {c : Code} (hf : P.funcs[f]? = some fn) (hb : fn.body = some c) (hst : stat C c = true) (n : Nat) : CallC P f (evFn C n fn) := by
  refine callC_of_A hC hf hb fun das rs h => ?_
  unfold evFn at h
  rw [hb] at h
  simp only at h
  split at h
  · rename_i env objs h1
    exact (evCode_ok hC hK hm n c _ _ _ _ _ hst h1).mono fun e env1 objs1 hq => by obtain ⟨rfl, rfl, rfl⟩ := hq; exact ⟨.inl rfl, h⟩
  · rename_i env objs h1
    exact (evCode_ok hC hK hm n c _ _ _ _ _ hst h1).mono fun e env1 objs1 hq => by obtain ⟨rfl, rfl, rfl⟩ := hq; exact ⟨.inr rfl, h⟩
  · cases h
end
end Go.Vm

/- A check of the tables that the evaluator is given: types, and types whose values it compares. -/
set_option linter.unusedVariables false
set_option linter.unusedSimpArgs false
namespace Go.Vm
open Go Go.RowKit

def denB : DV → Value → Bool
  | .sc (.int k n), .int k' n' => decide (k = k') && decide (n = n')
  | .sc (.bool b), .bool b' => b == b'
  | .sc (.string s), .string s' => decide (s = s')
  | .sc .nilFunc, .nilFunc => true
  | .sc .nilIface, .nilIface => true
  | .sc (.pointer none), .pointer none => true
  | .sc (.map none), .map none => true
  | .sc (.chan none), .chan none => true
  | .sc (.float k n), .float k' n' => decide (k = k') && decide (n = n')
  | .sl [], .slice none 0 0 => true
  | _, _ => false

theorem denB_ok {Φ : Fz} {x : DV} {v : Value} (h : denB x v = true) : Den Φ x v := by
  unfold denB at h
  split at h
  case h_1 => simp only [Bool.and_eq_true, decide_eq_true_eq] at h; obtain ⟨rfl, rfl⟩ := h; exact .sc _ rfl
  case h_2 => have := eq_of_beq h; subst this; exact .sc _ rfl
  case h_3 => have := of_decide_eq_true h; subst this; exact .sc _ rfl
  case h_4 => exact .sc _ rfl
  case h_5 => exact .sc _ rfl
  case h_6 => exact .sc _ rfl
  case h_7 => exact .sc _ rfl
  case h_8 => exact .sc _ rfl
  case h_9 => simp only [Bool.and_eq_true, decide_eq_true_eq] at h; obtain ⟨rfl, rfl⟩ := h; exact .sc _ rfl
  case h_10 => exact .nil _ _
  case h_11 => cases h

def zeroB : List DV → List Value → Bool
  | [], [] => true
  | x :: xs, v :: vs => denB x v && zeroB xs vs
  | _, _ => false

theorem zeroB_ok {Φ : Fz} : ∀ (xs : List DV) (vs : List Value), zeroB xs vs = true → All2 (Den Φ) xs vs
  | [], [], _ => All2.nil
  | x :: xs, v :: vs, h => by
    simp only [zeroB, Bool.and_eq_true] at h
    exact All2.cons (denB_ok h.1) (zeroB_ok xs vs h.2)
  | [], _ :: _, h => by simp [zeroB] at h
  | _ :: _, [], h => by simp [zeroB] at h

theorem denB_cr {Φ : Fz} {θ : Th} {objs : Objs} {x : DV} {v : Value} (h : denB x v = true) : CR Φ θ objs (zcv x) v := by
  have hd := denB_ok (Φ := Φ) h
  unfold zcv
  split
  · unfold denB at h
    split at h <;> first | rfl | (rename_i he; cases he) | (cases h; done) | skip
    all_goals (rename_i he _; cases he)
  · exact hd

theorem zeroB_cr {Φ : Fz} {θ : Th} {objs : Objs} : ∀ (xs : List DV) (vs : List Value), zeroB xs vs = true → All2 (CR Φ θ objs) (zcs xs) vs
  | [], [], _ => All2.nil
  | x :: xs, v :: vs, h => by
    simp only [zeroB, Bool.and_eq_true] at h
    exact All2.cons (denB_cr h.1) (zeroB_cr xs vs h.2)
  | [], _ :: _, h => by simp [zeroB] at h
  | _ :: _, [], h => by simp [zeroB] at h

def fsB (P : Program) : List (Nat × Nat × Bool) → List Field → Bool
  | [], [] => true
  | (o, sz, ag) :: fs, f :: rest => decide (f.offset = o) && (match P.info? f.type with | some i => decide (i.size = sz) | none => false) && (match P.underlying f.type with | some d => isAggD d == ag | none => false) && fsB P fs rest
  | _, _ => false

theorem fsB_len {P : Program} : ∀ (fs : List (Nat × Nat × Bool)) (l : List Field), fsB P fs l = true → fs.length = l.length
  | [], [], _ => rfl
  | _ :: fs, _ :: l, h => by
    simp only [fsB, Bool.and_eq_true] at h
    simp [fsB_len fs l h.2]
  | [], _ :: _, h => by simp [fsB] at h
  | _ :: _, [], h => by simp [fsB] at h

theorem fsB_ok {P : Program} : ∀ (fs : List (Nat × Nat × Bool)) (l : List Field), fsB P fs l = true → ∀ (f o sz : Nat) (ag : Bool), fs[f]? = some (o, sz, ag) →
    ∃ fld : Field, l[f]? = some fld ∧ fld.offset = o ∧ (∃ i, P.info? fld.type = some i ∧ i.size = sz) ∧ (∃ d', P.underlying fld.type = some d' ∧ isAggD d' = ag)
  | [], _, _, f, o, sz, ag, h => by simp at h
  | (o', sz', ag') :: fs, [], hb, _, _, _, _, _ => by simp [fsB] at hb
  | (o', sz', ag') :: fs, x :: l, hb, 0, o, sz, ag, h => by
    simp only [fsB, Bool.and_eq_true, decide_eq_true_eq] at hb
    obtain ⟨⟨⟨h1, h2⟩, h3⟩, _⟩ := hb
    simp at h
    obtain ⟨rfl, rfl, rfl⟩ := h
    refine ⟨x, rfl, h1, ?_, ?_⟩
    · split at h2
      · rename_i i hi; exact ⟨i, hi, of_decide_eq_true h2⟩
      · cases h2
    · split at h3
      · rename_i d hd; exact ⟨d, hd, eq_of_beq h3⟩
      · cases h3
  | (o', sz', ag') :: fs, x :: l, hb, f + 1, o, sz, ag, h => by
    simp only [fsB, Bool.and_eq_true] at hb
    simpa using fsB_ok fs l hb.2 f o sz ag (by simpa using h)

def kB (P : Program) : TK → TypeDesc → Bool
  | .plain, _ => true
  | .int k, .int k' => decide (k = k')
  | .bool, .bool => true
  | .str, .string => true
  | .struct fs, .struct fields => fsB P fs fields.toList
  | .array n e, .array n' e' => decide (n = n') && decide (e = e')
  | .slice e, .slice e' => decide (e = e')
  | .ptr e, .pointer e' => decide (e = e')
  | .map k e, .map k' e' => decide (k = k') && decide (e = e') && (match P.info? e with | some i => (match i.zero with | some .nilFunc => true | _ => false) | none => false)
  | _, _ => false

theorem kB_ok {P : Program} {k : TK} {d : TypeDesc} (h : kB P k d = true) : KOk P k d := by
  unfold kB at h
  split at h
  case h_1 => trivial
  case h_2 => have := of_decide_eq_true h; subst this; rfl
  case h_3 => rfl
  case h_4 => rfl
  case h_5 fs fields =>
    refine ⟨fields, rfl, by simpa using fsB_len _ _ h, fun f o sz ag hf => ?_⟩
    obtain ⟨fld, h1, h2⟩ := fsB_ok _ _ h f o sz ag hf
    exact ⟨fld, by simpa using h1, h2⟩
  case h_6 => simp only [Bool.and_eq_true, decide_eq_true_eq] at h; obtain ⟨rfl, rfl⟩ := h; rfl
  case h_7 => have := of_decide_eq_true h; subst this; rfl
  case h_8 => have := of_decide_eq_true h; subst this; rfl
  case h_9 =>
    simp only [Bool.and_eq_true, decide_eq_true_eq] at h
    obtain ⟨⟨rfl, rfl⟩, h⟩ := h
    refine ⟨rfl, ?_⟩
    split at h
    · rename_i i hi
      split at h
      · rename_i hz; exact ⟨i, hi, hz⟩
      · cases h
    · cases h
  case h_10 => cases h

def tyB (P : Program) (t : Nat) (ti : TI) : Bool :=
  match P.info? t, P.underlying t with
  | some i, some d => decide (i.size = ti.size) && decide (i.bytes = ti.bytes) && (match i.zero with | some z => decide (z.cells.size = ti.size) && zeroB ti.zero z.cells.toList | none => false) && (isAggD d == ti.agg) && kB P ti.kind d
  | _, _ => false

theorem tyB_ok {P : Program} {t : Nat} {ti : TI} (h : tyB P t ti = true) : TyOk P t ti := by
  unfold tyB at h
  split at h
  case h_2 => cases h
  case h_1 i d hi hd =>
  simp only [Bool.and_eq_true, decide_eq_true_eq] at h
  obtain ⟨⟨⟨⟨h1, h2⟩, h3⟩, h4⟩, h5⟩ := h
  split at h3
  case h_2 => cases h3
  case h_1 z hz =>
  simp only [Bool.and_eq_true, decide_eq_true_eq] at h3
  exact ⟨⟨i, z, hi, h1, h2, hz, fun Φ => zeroB_ok _ _ h3.2, h3.1, fun Φ θ objs => zeroB_cr _ _ h3.2⟩, d, hd, eq_of_beq h4, kB_ok h5⟩

def lkB (P : Program) (k : LK) (t : TypeId) : Bool :=
  match k, P.underlying t with
  | .i k, some (.int k') => decide (k = k')
  | .b, some .bool => true
  | .s, some .string => true
  | _, _ => false

def eqFsB (P : Program) : Nat → Nat → List LK → List Field → Bool
  | 0, _, _, _ => false
  | _ + 1, _, ks, [] => ks.isEmpty
  | n + 1, i, ks, f :: fs => decide (f.offset = i) && (f.name != "_") && match P.underlying f.type with
    | some (.struct gs) => match P.info? f.type with
      | some inf => (P.stoodInHeld f.type == false) && decide (inf.size ≤ ks.length) && eqFsB P n 0 (ks.take inf.size) gs.toList && eqFsB P n (i + inf.size) (ks.drop inf.size) fs
      | none => false
    | _ => match ks with
      | k :: ks => lkB P k f.type && eqFsB P n (i + 1) ks fs
      | [] => false

def eqB (P : Program) (t : Nat) (ks : List LK) : Bool :=
  (P.eqGuardType P.depth t == false) && (P.stoodInHeld t == false) && match P.underlying t with
  | some (.struct fields) => eqFsB P 100 0 ks fields.toList
  | _ => false

theorem eqCell_ok {P : Program} {Φ : Fz} {θ : Th} {objs : Objs} {k : LK} {t : TypeId} {x y : CV} {u v : Value} {b : Bool} {d : Nat} {w : World} (hk : lkB P k t = true) (h : eqCell k x y = some b) (hx : CR Φ θ objs x u) (hy : CR Φ θ objs y v) :
    (Op.equalIn (d + 1) t u v).run P w = .ok b w ∧ isAggD ((P.underlying t).getD .bool) = false ∧ ∃ dd, P.underlying t = some dd := by
  unfold eqCell at h
  split at h
  · rename_i k j a l b'
    split at h
    case isFalse => cases h
    case isTrue hjl =>
    injection h with h
    obtain ⟨rfl, rfl⟩ := hjl
    obtain ⟨rfl, _⟩ := den_sc hx
    obtain ⟨rfl, _⟩ := den_sc hy
    unfold lkB at hk
    split at hk <;> first | cases hk | skip
    · rename_i heq hu
      rw [run_equalIn_int w d t _ _ _ _ hu, ← h]
      refine ⟨by congr 1, by rw [hu]; rfl, _, hu⟩
    · rename_i heq _; cases heq
    · rename_i heq _; cases heq
  · injection h with h
    obtain ⟨rfl, _⟩ := den_sc hx
    obtain ⟨rfl, _⟩ := den_sc hy
    unfold lkB at hk
    split at hk <;> first | cases hk | skip
    · rename_i heq _; cases heq
    · rename_i hu
      rw [run_equalIn_bool' w d t _ _ hu, ← h]
      exact ⟨rfl, by rw [hu]; rfl, _, hu⟩
    · rename_i heq _; cases heq
  · rename_i s1 s2
    injection h with h
    obtain ⟨rfl, _⟩ := den_sc hx
    obtain ⟨rfl, _⟩ := den_sc hy
    unfold lkB at hk
    split at hk <;> first | cases hk | skip
    · rename_i heq _; cases heq
    · rename_i heq _; cases heq
    · rename_i hu
      refine ⟨?_, by rw [hu]; rfl, _, hu⟩
      rw [run_equalIn_string w d t _ _ hu, bytes_dec, h]
  · cases h

theorem eqCells_split : ∀ (m : Nat) (ks : List LK) (xs ys : List CV) (b : Bool), m ≤ ks.length → eqCells ks xs ys = some b → ∃ b1 b2, eqCells (ks.take m) (xs.take m) (ys.take m) = some b1 ∧ eqCells (ks.drop m) (xs.drop m) (ys.drop m) = some b2 ∧ b = (b1 && b2)
  | 0, ks, xs, ys, b, _, h => ⟨true, b, by simp [eqCells], by simpa using h, by simp⟩
  | m + 1, [], xs, ys, b, hm, h => by simp at hm
  | m + 1, k :: ks, [], ys, b, hm, h => by simp [eqCells] at h
  | m + 1, k :: ks, x :: xs, [], b, hm, h => by simp [eqCells] at h
  | m + 1, k :: ks, x :: xs, y :: ys, b, hm, h => by
    unfold eqCells at h
    split at h
    case h_2 => cases h
    case h_1 b1 b2 hb1 hb2 =>
    injection h with h
    obtain ⟨c1, c2, h1, h2, h3⟩ := eqCells_split m ks xs ys b2 (by simpa using hm) hb2
    refine ⟨b1 && c1, c2, ?_, by simpa using h2, by rw [← h, h3, Bool.and_assoc]⟩
    simp only [List.take_succ_cons, eqCells, hb1, h1]

theorem eqFs_ok {P : Program} {Φ : Fz} {θ : Th} {objs : Objs} {w : World} : ∀ (n d : Nat) {us vs : Array Value} (ks : List LK) (i : Nat) (fs : List Field) (xs ys : List CV) (b : Bool), eqFsB P n i ks fs = true → eqCells ks xs ys = some b →
    All2 (CR Φ θ objs) xs (us.toList.drop i) → All2 (CR Φ θ objs) ys (vs.toList.drop i) → (Op.eqFields (d + n) us vs fs).run P w = .ok b w
  | 0, _, _, _, _, _, _, _, _, _, h, _, _, _ => by simp [eqFsB] at h
  | n + 1, d, us, vs, ks, i, [], xs, ys, b, hb, h, _, _ => by
    simp only [eqFsB, List.isEmpty_iff] at hb
    subst hb
    cases xs <;> cases ys <;> simp [eqCells] at h
    subst h; simp [Op.eqFields]
  | n + 1, d, us, vs, ks, i, f :: fs, xs, ys, b, hb, h, hx, hy => by
    simp only [eqFsB, Bool.and_eq_true, decide_eq_true_eq, bne_iff_ne, ne_eq] at hb
    obtain ⟨⟨hoff, hnm⟩, hb⟩ := hb
    split at hb
    case h_1 gs hu =>
      split at hb
      case h_2 => cases hb
      case h_1 inf hinf =>
      simp only [Bool.and_eq_true, decide_eq_true_eq, beq_iff_eq] at hb
      obtain ⟨⟨⟨hst, hm⟩, hin⟩, hrest⟩ := hb
      obtain ⟨b1, b2, h1, h2, h3⟩ := eqCells_split inf.size ks xs ys b hm h
      have cut : ∀ {cs : List CV} {zs : Array Value}, All2 (CR Φ θ objs) cs (zs.toList.drop i) → All2 (CR Φ θ objs) (cs.take inf.size) (zs.extract i (i + inf.size)).toList := by
        intro cs zs hz
        have := hz.take inf.size
        have e : (zs.extract i (i + inf.size)).toList = (zs.toList.drop i).take inf.size := by
          rw [Array.toList_extract]
          simp [List.extract_eq_take_drop]
        rw [e]; exact this
      have ih1 := eqFs_ok (w := w) n d (us := us.extract i (i + inf.size)) (vs := vs.extract i (i + inf.size)) (ks.take inf.size) 0 gs.toList _ _ b1 hin h1 (by simpa using cut hx) (by simpa using cut hy)
      have ih2 := eqFs_ok (w := w) n (d + 1) (us := us) (vs := vs) (ks.drop inf.size) (i + inf.size) fs _ _ b2 hrest h2 (by rw [← List.drop_drop]; exact hx.drop _) (by rw [← List.drop_drop]; exact hy.drop _)
      have hf : P.fieldsOf f.type = gs := by simp [Program.fieldsOf, hu]
      have p1 : ∀ zs : Array Value, (part f.type zs f.offset).run P w = .ok (.agg (zs.extract i (i + inf.size))) w := by
        intro zs
        rw [run_part_agg hu rfl hinf, hoff]
      have e1 : (Op.equalIn (d + (n + 1)) f.type (.agg (us.extract i (i + inf.size))) (.agg (vs.extract i (i + inf.size)))).run P w = .ok b1 w := by
        rw [show d + (n + 1) = (d + n) + 1 by omega, run_equalIn_struct (P := P) w _ f.type _ _ (by rw [hf]; exact hu) hst, hf]
        exact ih1
      rw [Op.eqFields]
      simp only [if_pos hnm, Sem.run_bind, p1, e1, Result.andThen_ok]
      rw [h3]
      cases b1
      · simp
      · simp only [Bool.true_and, if_true]
        rw [show d + (n + 1) = d + 1 + n by omega]; exact ih2
    case h_2 hns =>
    split at hb
    case h_2 => cases hb
    case h_1 k ks' =>
    rw [Bool.and_eq_true] at hb
    obtain ⟨hlk, hrest⟩ := hb
    cases xs with
    | nil => simp [eqCells] at h
    | cons x xs =>
    cases ys with
    | nil => simp [eqCells] at h
    | cons y ys =>
    unfold eqCells at h
    split at h
    case h_2 => cases h
    case h_1 b1 b2 hb1 hb2 =>
    injection h with h
    obtain ⟨u, us', hu, hu1, hu2⟩ := hx.cons_left
    obtain ⟨v, vs', hv, hv1, hv2⟩ := hy.cons_left
    have hu0 : us[i]? = some u := by
      have : (us.toList.drop i)[0]? = some u := by rw [hu]; rfl
      simpa using this
    have hv0 : vs[i]? = some v := by
      have : (vs.toList.drop i)[0]? = some v := by rw [hv]; rfl
      simpa using this
    have hu3 : us' = us.toList.drop (i + 1) := by have := congrArg List.tail hu; simpa using this.symm
    have hv3 : vs' = vs.toList.drop (i + 1) := by have := congrArg List.tail hv; simpa using this.symm
    obtain ⟨he, hag, dd, hdd⟩ := eqCell_ok (d := d + n) (w := w) hlk hb1 hu1 hv1
    have hagg : isAggD dd = false := by rw [hdd] at hag; exact hag
    have ih := eqFs_ok (w := w) n (d + 1) (us := us) (vs := vs) ks' (i + 1) fs xs ys b2 hrest hb2 (by rw [← hu3]; exact hu2) (by rw [← hv3]; exact hv2)
    have p1 : (part f.type us f.offset).run P w = .ok u w := by
      unfold part
      simp only [Sem.run_bind, run_isAgg hdd, Result.andThen_ok, hagg, Bool.false_eq_true, if_false, hoff, hu0]
      rfl
    have p2 : (part f.type vs f.offset).run P w = .ok v w := by
      unfold part
      simp only [Sem.run_bind, run_isAgg hdd, Result.andThen_ok, hagg, Bool.false_eq_true, if_false, hoff, hv0]
      rfl
    rw [Op.eqFields]
    rw [show d + (n + 1) = d + n + 1 by omega]
    simp only [if_pos hnm, Sem.run_bind, p1, p2, he, Result.andThen_ok]
    rw [← h]
    cases b1
    · simp
    · simp only [Bool.true_and, if_true]
      rw [show d + n + 1 = d + 1 + n by omega]; exact ih

theorem eqB_ok {P : Program} {t : Nat} {ks : List LK} (h : eqB P t ks = true) : P.eqGuardType P.depth t = false ∧ ∀ (Φ : Fz) (θ : Th) (objs : Objs) xs ys (us vs : List Value) b w, eqCells ks xs ys = some b →
    All2 (CR Φ θ objs) xs us → All2 (CR Φ θ objs) ys vs → (Op.equal t (.agg us.toArray) (.agg vs.toArray)).run P w = .ok b w := by
  unfold eqB at h
  simp only [Bool.and_eq_true, beq_iff_eq] at h
  obtain ⟨⟨h1, h2⟩, h3⟩ := h
  refine ⟨h1, fun Φ θ objs xs ys us vs b w he hx hy => ?_⟩
  split at h3
  case h_2 => cases h3
  case h_1 fields hu =>
  have hf : P.fieldsOf t = fields := by simp [Program.fieldsOf, hu]
  have h9 : Op.equal t (.agg us.toArray) (.agg vs.toArray) = Op.equalIn (9899 + 100 + 1) t (.agg us.toArray) (.agg vs.toArray) := rfl
  rw [h9, run_equalIn_struct (P := P) w _ t _ _ (by rw [hf]; exact hu) h2, hf]
  exact eqFs_ok 100 9899 ks 0 fields.toList xs ys b h3 he (by simpa using hx) (by simpa using hy)

theorem mem_of_lookup {β : Type} : ∀ {l : List (Nat × β)} {t : Nat} {x : β}, l.lookup t = some x → (t, x) ∈ l
  | (k, y) :: l, t, x, h => by
    simp only [List.lookup] at h
    split at h
    · rename_i hk; injection h with h; subst h; have := eq_of_beq hk; subst this; simp
    · exact List.mem_cons_of_mem _ (mem_of_lookup h)

def cfgB (P : Program) (ty : List (Nat × TI)) (eqs : List (Nat × List LK)) : Bool := ty.all (fun p => tyB P p.1 p.2) && eqs.all (fun p => eqB P p.1 p.2)

theorem cfgB_ok {P : Program} {C : Cfg} (h : cfgB P C.ty C.eqs = true) : CfgOk P C := by
  unfold cfgB at h
  rw [Bool.and_eq_true] at h
  exact ⟨fun t ti ht => tyB_ok (List.all_eq_true.1 h.1 (t, ti) (mem_of_lookup ht)), fun t ks ht => eqB_ok (List.all_eq_true.1 h.2 (t, ks) (mem_of_lookup ht))⟩

end Go.Vm

/- Rules in the form in which they are used. -/
set_option linter.unusedVariables false
set_option linter.unusedSimpArgs false
namespace Go.Vm
open Go Go.RowKit

structure Env1 (P : Program) (C : Cfg) : Prop where
  cfg : CfgOk P C
  calls : CallsOk P C
  mixed : P.follows .mixedOrders = true

@[simp] def OnSome {α β : Type} (x : Option (α × β)) (K : α → β → Prop) : Prop := match x with
  | some (a, b) => K a b
  | none => False

theorem OnSome_some {α β : Type} {a : α} {b : β} {K : α → β → Prop} : OnSome (some (a, b)) K = K a b := rfl

section
variable {P : Program} {C : Cfg} {Q : Ex → Env → Objs → Prop} {env : Env} {objs : Objs}

theorem A_reg (hE : Env1 P C) {id : Nat} {ops : Array Oper} {draw : Bool} (hst : stat C (.region id ops draw) = true) (h : OnSome (evReg C id ops draw env objs) (Q .normal)) : A P (.region id ops draw) Q env objs := by
  unfold OnSome at h
  split at h
  · rename_i e o he; exact A_region hE.cfg hE.calls hE.mixed hst he h
  · cases h

theorem A_rk (hE : Env1 P C) {id : Nat} {ops : Array Oper} {draw : Bool} (hst : stat C (.region id ops draw) = true) (h : ∀ K : Env → Objs → Prop, (∀ e o, Q .normal e o → K e o) → OnSome (evReg C id ops draw env objs) K) : A P (.region id ops draw) Q env objs :=
  A_reg hE hst (h _ fun _ _ hq => hq)

theorem A_cnd {x : Operand} {c d : Code} {b : Bool} (hx : rdB env x = some b) (h1 : b = true → A P c Q env objs) (h2 : b = false → A P d Q env objs) : A P (.cond x c d) Q env objs := A_cond hx ⟨h1, h2⟩

def Rounds (P : Program) (C : Cfg) (c : Code) (L : Nat) (Q : Ex → Env → Objs → Prop) : Nat → Env → Objs → Prop
  | 0, _, _ => False
  | n + 1, env, objs => A P c (Ex.then (fun _ env' objs' => Rounds P C c L Q n (settle C L env' objs').1 (settle C L env' objs').2) Q) env objs

theorem A_rounds {c : Code} (L : Nat) (n : Nat) (hL : objs.length = L) (h : Rounds P C c L Q n (settle C L env objs).1 (settle C L env objs).2) : A P (.loop c) Q env objs := by
  refine A_loop (C := C) L (fun m e o => Rounds P C c L Q m e o) hL ⟨n, h⟩ ?_
  intro m e o hm
  cases m with
  | zero => exact hm.elim
  | succ m =>
    refine A.mono hm fun ex e' o' hq => ?_
    cases ex with
    | normal => exact ⟨m, by omega, hq⟩
    | ret => exact hq
    | exit i => exact hq
    | goto i => exact hq
end

@[simp] def mkEnv (n : Nat) (l : List (Nat × TV)) : Env := (List.range n).map fun i => (l.lookup i).getD .unk

@[simp] def mkC (ty : List (Nat × TI)) (eqs : List (Nat × List LK)) (tbl : List (Nat × (List DA → Option (List RV)))) (scal : List Nat) (owns : List (Nat × List (Nat × Nat × Nat))) (vars ores : List Nat) (flags : List (Nat × List Bool)) : Cfg where
  ty := ty
  eqs := eqs
  call := fun f => (tbl.lookup f).getD fun _ => none
  calls := tbl.map (·.1)
  scal := scal
  owns := owns
  vars := vars
  ores := ores
  flags := flags
  inls := []
  inl := fun _ _ _ => none

def AllC (P : Program) : List (Nat × (List DA → Option (List RV))) → Prop
  | [] => True
  | (f, F) :: l => (Enters P f ∧ CallC P f F) ∧ AllC P l

theorem AllC.ok {P : Program} : ∀ {tbl : List (Nat × (List DA → Option (List RV)))}, AllC P tbl → ∀ f, (tbl.map (·.1)).contains f = true → Enters P f ∧ CallC P f ((tbl.lookup f).getD fun _ => none)
  | [], _, f, hf => by simp at hf
  | (g, G) :: l, h, f, hf => by
    by_cases hfg : f = g
    · subst hfg; simpa [List.lookup] using h.1
    · have : (f == g) = false := by simpa using hfg
      simp only [List.lookup, this]
      refine AllC.ok h.2 f ?_
      simpa [hfg, this] using hf

theorem mkC_ok {P : Program} {ty : List (Nat × TI)} {eqs : List (Nat × List LK)} {tbl : List (Nat × (List DA → Option (List RV)))} {scal : List Nat} {owns : List (Nat × List (Nat × Nat × Nat))} {vars ores : List Nat} {flags : List (Nat × List Bool)}
    (h1 : cfgB P ty eqs = true) (h2 : AllC P tbl) (h3 : P.follows .mixedOrders = true) : Env1 P (mkC ty eqs tbl scal owns vars ores flags) :=
  ⟨cfgB_ok h1, ⟨fun f h => by simp [mkC] at h, fun f h => by simp [mkC] at h, fun f hf => (AllC.ok h2 f hf).1, fun f hf => (AllC.ok h2 f hf).2⟩, h3⟩

theorem enters_of {P : Program} {f : Nat} {fn : Func} (h : P.funcs[f]? = some fn) (h1 : fn.body.isNone = false) (h2 : (fn.name == "runtime.NumGoroutine") = false) : Enters P f := ⟨fn, h, h1, h2⟩

def mkP (C : Cfg) (p : List (Nat × List Nat)) : Cfg := { C with pins := p }
theorem mkP_ok {P : Program} {C : Cfg} {p : List (Nat × List Nat)} (h : Env1 P C) : Env1 P (mkP C p) :=
  ⟨⟨h.cfg.ty, h.cfg.eq⟩, ⟨h.calls.entersI, h.calls.inl, h.calls.enters, h.calls.call⟩, h.mixed⟩

end Go.Vm

/- Nice arguments: values as Lean data, their cells, and contracts over them. -/
set_option linter.unusedVariables false
set_option linter.unusedSimpArgs false
namespace Go.Vm
open Go Go.RowKit

structure Enc (α : Type) where
  enc : α → DA
  dec : DA → Option α
  ok : ∀ d x, dec d = some x → d = enc x

@[simp] def con1 {α : Type} (e : Enc α) (f : α → Option (List RV)) : List DA → Option (List RV)
  | [x] => (e.dec x).bind f
  | _ => none
@[simp] def con2 {α β : Type} (e : Enc α) (e2 : Enc β) (f : α → β → Option (List RV)) : List DA → Option (List RV)
  | [x, y] => (e.dec x).bind fun a => (e2.dec y).bind fun b => f a b
  | _ => none
@[simp] def con3 {α β γ : Type} (e : Enc α) (e2 : Enc β) (e3 : Enc γ) (f : α → β → γ → Option (List RV)) : List DA → Option (List RV)
  | [x, y, z] => (e.dec x).bind fun a => (e2.dec y).bind fun b => (e3.dec z).bind fun c => f a b c
  | _ => none
@[simp] def con4 {α β γ δ : Type} (e : Enc α) (e2 : Enc β) (e3 : Enc γ) (e4 : Enc δ) (f : α → β → γ → δ → Option (List RV)) : List DA → Option (List RV)
  | [x, y, z, u] => (e.dec x).bind fun a => (e2.dec y).bind fun b => (e3.dec z).bind fun c => (e4.dec u).bind fun d => f a b c d
  | _ => none

theorem con1_spec {α : Type} {e : Enc α} {f : α → Option (List RV)} {das : List DA} {rs : List RV} (h : con1 e f das = some rs) : ∃ a, das = [e.enc a] ∧ f a = some rs := by
  unfold con1 at h
  split at h
  · rename_i x
    simp only [Option.bind_eq_some_iff] at h
    obtain ⟨a, ha, h⟩ := h
    exact ⟨a, by rw [e.ok _ _ ha], h⟩
  · cases h
theorem con2_spec {α β : Type} {e : Enc α} {e2 : Enc β} {f : α → β → Option (List RV)} {das : List DA} {rs : List RV} (h : con2 e e2 f das = some rs) : ∃ a b, das = [e.enc a, e2.enc b] ∧ f a b = some rs := by
  unfold con2 at h
  split at h
  · simp only [Option.bind_eq_some_iff] at h
    obtain ⟨a, ha, b, hb, h⟩ := h
    exact ⟨a, b, by rw [e.ok _ _ ha, e2.ok _ _ hb], h⟩
  · cases h
theorem con3_spec {α β γ : Type} {e : Enc α} {e2 : Enc β} {e3 : Enc γ} {f : α → β → γ → Option (List RV)} {das : List DA} {rs : List RV} (h : con3 e e2 e3 f das = some rs) : ∃ a b c, das = [e.enc a, e2.enc b, e3.enc c] ∧ f a b c = some rs := by
  unfold con3 at h
  split at h
  · simp only [Option.bind_eq_some_iff] at h
    obtain ⟨a, ha, b, hb, c, hc, h⟩ := h
    exact ⟨a, b, c, by rw [e.ok _ _ ha, e2.ok _ _ hb, e3.ok _ _ hc], h⟩
  · cases h
theorem con4_spec {α β γ δ : Type} {e : Enc α} {e2 : Enc β} {e3 : Enc γ} {e4 : Enc δ} {f : α → β → γ → δ → Option (List RV)} {das : List DA} {rs : List RV} (h : con4 e e2 e3 e4 f das = some rs) : ∃ a b c d, das = [e.enc a, e2.enc b, e3.enc c, e4.enc d] ∧ f a b c d = some rs := by
  unfold con4 at h
  split at h
  · simp only [Option.bind_eq_some_iff] at h
    obtain ⟨a, ha, b, hb, c, hc, d, hd, h⟩ := h
    exact ⟨a, b, c, d, by rw [e.ok _ _ ha, e2.ok _ _ hb, e3.ok _ _ hc, e4.ok _ _ hd], h⟩
  · cases h

@[simp] def eInt : Enc Int where
  enc n := .one (I n)
  dec | .one (.sc (.int .i64 n)) => some n | _ => none
  ok d x h := by split at h <;> simp at h; subst h; rfl
@[simp] def eBool : Enc Bool where
  enc n := .one (B n)
  dec | .one (.sc (.bool n)) => some n | _ => none
  ok d x h := by split at h <;> simp at h; subst h; rfl
@[simp] def eStr : Enc ByteArray where
  enc n := .one (S n)
  dec | .one (.sc (.string n)) => some n | _ => none
  ok d x h := by split at h <;> simp at h; subst h; rfl


section
variable {α β γ δ ε ζ : Type}
@[simp] def con5 (e : Enc α) (e2 : Enc β) (e3 : Enc γ) (e4 : Enc δ) (e5 : Enc ε) (f : α → β → γ → δ → ε → Option (List RV)) : List DA → Option (List RV)
  | [x, y, z, u, v] => (e.dec x).bind fun a => (e2.dec y).bind fun b => (e3.dec z).bind fun c => (e4.dec u).bind fun d => (e5.dec v).bind fun g => f a b c d g
  | _ => none
@[simp] def con0 (f : Option (List RV)) : List DA → Option (List RV)
  | [] => f
  | _ => none
theorem con5_spec {e : Enc α} {e2 : Enc β} {e3 : Enc γ} {e4 : Enc δ} {e5 : Enc ε} {f : α → β → γ → δ → ε → Option (List RV)} {das : List DA} {rs : List RV} (h : con5 e e2 e3 e4 e5 f das = some rs) : ∃ a b c d g, das = [e.enc a, e2.enc b, e3.enc c, e4.enc d, e5.enc g] ∧ f a b c d g = some rs := by
  unfold con5 at h
  split at h
  · simp only [Option.bind_eq_some_iff] at h
    obtain ⟨a, ha, b, hb, c, hc, d, hd, g, hg, h⟩ := h
    exact ⟨a, b, c, d, g, by rw [e.ok _ _ ha, e2.ok _ _ hb, e3.ok _ _ hc, e4.ok _ _ hd, e5.ok _ _ hg], h⟩
  · cases h
end
@[simp] def eK (k : IntKind) : Enc Int where
  enc n := .one (.sc (.int k n))
  dec | .one (.sc (.int j n)) => if j = k then some n else none | _ => none
  ok d x h := by
    split at h
    · split at h
      · rename_i hk; simp at h; subst h; subst hk; rfl
      · cases h
    · cases h

structure Cel (α : Type) where
  c : α → List DV
  d : List DV → Option α
  ok : ∀ l a, d l = some a → c a = l

section
variable {α β : Type}
def decL (d : List DV → Option α) : List (List DV) → Option (List α)
  | [] => some []
  | x :: xs => (d x).bind fun a => (decL d xs).bind fun l => some (a :: l)
theorem decL_ok {e : Cel α} : ∀ {l : List (List DV)} {a : List α}, decL e.d l = some a → a.map e.c = l
  | [], a, h => by simp [decL] at h; subst h; rfl
  | x :: xs, a, h => by
    simp only [decL, Option.bind_eq_some_iff, Option.some.injEq] at h
    obtain ⟨y, hy, l, hl, rfl⟩ := h
    simp [e.ok _ _ hy, decL_ok hl]
@[simp] theorem decL_nil {d : List DV → Option α} : decL d [] = some [] := rfl
@[simp] theorem decL_cons {d : List DV → Option α} {x : List DV} {xs : List (List DV)} : decL d (x :: xs) = (d x).bind fun a => (decL d xs).bind fun l => some (a :: l) := rfl
theorem decL_append' {d : List DV → Option α} : ∀ (a b : List (List DV)), decL d (a ++ b) = (decL d a).bind fun x => (decL d b).bind fun y => some (x ++ y)
  | [], b => by simp
  | x :: a, b => by
    simp only [List.cons_append, decL_cons, decL_append' a b]
    cases d x with
    | none => rfl
    | some t =>
      simp only [Option.bind_some]
      cases decL d a with
      | none => rfl
      | some u => simp only [Option.bind_some]; cases decL d b <;> rfl
@[simp] theorem decL_append {d : List DV → Option α} {a b : List (List DV)} : decL d (a ++ b) = (decL d a).bind fun x => (decL d b).bind fun y => some (x ++ y) := decL_append' a b
@[simp] theorem decL_map {d : List DV → Option α} {c : α → List DV} {l : List α} (h : ∀ x, d (c x) = some x) : decL d (l.map c) = some l := by
  induction l with
  | nil => rfl
  | cons x l ih => simp [h, ih]
@[simp] theorem decL_take {d : List DV → Option α} {c : α → List DV} {l : List α} {n : Nat} (h : ∀ x, d (c x) = some x) : decL d ((l.map c).take n) = some (l.take n) := by
  rw [← List.map_take, decL_map h]
@[simp] theorem decL_drop {d : List DV → Option α} {c : α → List DV} {l : List α} {n : Nat} (h : ∀ x, d (c x) = some x) : decL d ((l.map c).drop n) = some (l.drop n) := by
  rw [← List.map_drop, decL_map h]
@[simp] theorem decL_take_drop {d : List DV → Option α} {c : α → List DV} {l : List α} {n m : Nat} (h : ∀ x, d (c x) = some x) : decL d (((l.map c).take n).drop m) = some ((l.take n).drop m) := by
  rw [← List.map_take, ← List.map_drop, decL_map h]
@[simp] theorem decL_set {d : List DV → Option α} {c : α → List DV} {l : List α} {i : Nat} {x : List DV} (h : ∀ x, d (c x) = some x) : decL d ((l.map c).set i x) = if i < l.length then (d x).bind fun a => some (l.set i a) else some l := by
  induction l generalizing i with
  | nil => rfl
  | cons y l ih =>
    cases i with
    | zero => simp [decL_map h]
    | succ i =>
      simp only [List.map_cons, List.set_cons_succ, decL_cons, h, Option.bind_some, ih, List.length_cons, Nat.add_lt_add_iff_right]
      split
      · cases d x <;> rfl
      · rfl
@[simp] theorem decL_replicate {d : List DV → Option α} {n : Nat} {x : List DV} {a : α} (h : d x = some a) : decL d (List.replicate n x) = some (List.replicate n a) := by
  induction n with
  | zero => rfl
  | succ n ih => rw [List.replicate_succ, decL_cons, h, ih]; rfl

def iC (n : Int) : List DV := [.sc (.int .i64 n)]
@[simp] def iD : List DV → Option Int
  | [.sc (.int .i64 n)] => some n
  | _ => none
theorem iC_ok (l : List DV) (a : Int) (h : iD l = some a) : iC a = l := by
  unfold iD at h
  split at h
  · injection h with h; subst h; rfl
  · cases h
def ceI : Cel Int := ⟨iC, iD, iC_ok⟩
@[simp] theorem ceI_c : ceI.c = iC := rfl
@[simp] theorem ceI_d : ceI.d = iD := rfl
theorem iC_dc (x : Int) : iD (iC x) = some x := rfl
@[simp] theorem iC_dmap (l : List Int) : decL iD (l.map iC) = some l := decL_map iC_dc
@[simp] theorem iC_dtake (l : List Int) (n : Nat) : decL iD ((l.map iC).take n) = some (l.take n) := decL_take iC_dc
@[simp] theorem iC_ddrop (l : List Int) (n : Nat) : decL iD ((l.map iC).drop n) = some (l.drop n) := decL_drop iC_dc
@[simp] theorem iC_dtd (l : List Int) (n m : Nat) : decL iD (((l.map iC).take n).drop m) = some ((l.take n).drop m) := decL_take_drop iC_dc
@[simp] theorem iC_dset (l : List Int) (i : Nat) (x : List DV) : decL iD ((l.map iC).set i x) = if i < l.length then (iD x).bind fun a => some (l.set i a) else some l := decL_set iC_dc
def uC (n : Int) : List DV := [.sc (.int .u8 n)]
@[simp] def uD : List DV → Option Int
  | [.sc (.int .u8 n)] => some n
  | _ => none
theorem uC_ok (l : List DV) (a : Int) (h : uD l = some a) : uC a = l := by
  unfold uD at h
  split at h
  · injection h with h; subst h; rfl
  · cases h
def ceU : Cel Int := ⟨uC, uD, uC_ok⟩
@[simp] theorem ceU_c : ceU.c = uC := rfl
@[simp] theorem ceU_d : ceU.d = uD := rfl
theorem uC_dc (x : Int) : uD (uC x) = some x := rfl
@[simp] theorem uC_dmap (l : List Int) : decL uD (l.map uC) = some l := decL_map uC_dc
@[simp] theorem uC_dtake (l : List Int) (n : Nat) : decL uD ((l.map uC).take n) = some (l.take n) := decL_take uC_dc
@[simp] theorem uC_ddrop (l : List Int) (n : Nat) : decL uD ((l.map uC).drop n) = some (l.drop n) := decL_drop uC_dc
@[simp] theorem uC_dtd (l : List Int) (n m : Nat) : decL uD (((l.map uC).take n).drop m) = some ((l.take n).drop m) := decL_take_drop uC_dc
@[simp] theorem uC_dset (l : List Int) (i : Nat) (x : List DV) : decL uD ((l.map uC).set i x) = if i < l.length then (uD x).bind fun a => some (l.set i a) else some l := decL_set uC_dc
def bC (n : Bool) : List DV := [.sc (.bool n)]
@[simp] def bD : List DV → Option Bool
  | [.sc (.bool n)] => some n
  | _ => none
theorem bC_ok (l : List DV) (a : Bool) (h : bD l = some a) : bC a = l := by
  unfold bD at h
  split at h
  · injection h with h; subst h; rfl
  · cases h
def ceB : Cel Bool := ⟨bC, bD, bC_ok⟩
@[simp] theorem ceB_c : ceB.c = bC := rfl
@[simp] theorem ceB_d : ceB.d = bD := rfl
theorem bC_dc (x : Bool) : bD (bC x) = some x := rfl
@[simp] theorem bC_dmap (l : List Bool) : decL bD (l.map bC) = some l := decL_map bC_dc
@[simp] theorem bC_dtake (l : List Bool) (n : Nat) : decL bD ((l.map bC).take n) = some (l.take n) := decL_take bC_dc
@[simp] theorem bC_ddrop (l : List Bool) (n : Nat) : decL bD ((l.map bC).drop n) = some (l.drop n) := decL_drop bC_dc
@[simp] theorem bC_dtd (l : List Bool) (n m : Nat) : decL bD (((l.map bC).take n).drop m) = some ((l.take n).drop m) := decL_take_drop bC_dc
@[simp] theorem bC_dset (l : List Bool) (i : Nat) (x : List DV) : decL bD ((l.map bC).set i x) = if i < l.length then (bD x).bind fun a => some (l.set i a) else some l := decL_set bC_dc
def sC (n : ByteArray) : List DV := [.sc (.string n)]
@[simp] def sD : List DV → Option ByteArray
  | [.sc (.string n)] => some n
  | _ => none
theorem sC_ok (l : List DV) (a : ByteArray) (h : sD l = some a) : sC a = l := by
  unfold sD at h
  split at h
  · injection h with h; subst h; rfl
  · cases h
def ceS : Cel ByteArray := ⟨sC, sD, sC_ok⟩
@[simp] theorem ceS_c : ceS.c = sC := rfl
@[simp] theorem ceS_d : ceS.d = sD := rfl
theorem sC_dc (x : ByteArray) : sD (sC x) = some x := rfl
@[simp] theorem sC_dmap (l : List ByteArray) : decL sD (l.map sC) = some l := decL_map sC_dc
@[simp] theorem sC_dtake (l : List ByteArray) (n : Nat) : decL sD ((l.map sC).take n) = some (l.take n) := decL_take sC_dc
@[simp] theorem sC_ddrop (l : List ByteArray) (n : Nat) : decL sD ((l.map sC).drop n) = some (l.drop n) := decL_drop sC_dc
@[simp] theorem sC_dtd (l : List ByteArray) (n m : Nat) : decL sD (((l.map sC).take n).drop m) = some ((l.take n).drop m) := decL_take_drop sC_dc
@[simp] theorem sC_dset (l : List ByteArray) (i : Nat) (x : List DV) : decL sD ((l.map sC).set i x) = if i < l.length then (sD x).bind fun a => some (l.set i a) else some l := decL_set sC_dc
@[simp] def ceK (k : IntKind) : Cel Int where
  c n := [.sc (.int k n)]
  d | [.sc (.int j n)] => if j = k then some n else none | _ => none
  ok l a h := by
    split at h
    · split at h
      · rename_i hk; simp at h; subst h; subst hk; rfl
      · cases h
    · cases h
def byts (s : ByteArray) : List Int := s.data.toList.map fun b => (b.toNat : Int)
@[simp] theorem bytesOf_eq (s : ByteArray) : bytesOf s = (byts s).map uC := by
  simp [bytesOf, byts, uC]
@[simp] theorem byts_length (s : ByteArray) : (byts s).length = s.size := by
  unfold byts
  rw [List.length_map]
  rfl
theorem strOf_eq' : ∀ (l : List (List DV)), strOf l = decL uD l
  | [] => rfl
  | x :: xs => by
    have ih := strOf_eq' xs
    unfold strOf
    rw [decL_cons]
    split
    · rename_i h; cases h
    · rename_i n ys h
      injection h with h1 h2
      subst h1; subst h2
      rw [ih]
      simp only [uD, Option.bind_some]
      cases decL uD xs <;> rfl
    · rename_i h1 h2
      have : uD x = none := by
        unfold uD
        split
        · rename_i n; exact absurd rfl (h2 n xs)
        · rfl
      rw [this]; rfl
@[simp] theorem strOf_eq (l : List (List DV)) : strOf l = decL uD l := strOf_eq' l
@[simp] def ceL (e : Cel α) : Cel (List α) where
  c l := [.sl (l.map e.c)]
  d | [.sl l] => decL e.d l | _ => none
  ok l a h := by
    split at h
    · rw [decL_ok h]
    · cases h
@[simp] def eT (e : Cel α) : Enc α where
  enc a := .agg (e.c a)
  dec | .agg l => e.d l | _ => none
  ok d x h := by
    split at h
    · rw [e.ok _ _ h]
    · cases h
@[simp] def eL (e : Cel α) : Enc (List α) where
  enc l := .one (.sl (l.map e.c))
  dec | .one (.sl l) => decL e.d l | _ => none
  ok d x h := by
    split at h
    · rw [decL_ok h]
    · cases h
end

def long : Nat := 1099511627776

theorem wrap64 {n : Int} (h0 : -9223372036854775808 ≤ n) (h1 : n ≤ 9223372036854775807) : IntKind.i64.wrap n = n := by
  simp only [IntKind.wrap, IntKind.bits, IntKind.signed]
  simp
  omega

theorem wrap_add1 (i : Nat) (h : i ≤ 1099511627776) : IntKind.i64.wrap ((i : Int) + 1) = ((i + 1 : Nat) : Int) := by
  rw [wrap64 (by omega) (by omega)]; simp

@[simp] theorem evMM_max (a b : Int) : evMM true (some (.int .i64 a)) (some (.int .i64 b)) = some (sv (.int .i64 (max a b))) := by
  have h : (if a < b then b else a) = max a b := by split <;> omega
  simp only [evMM, if_true, h]
@[simp] theorem evMM_min (a b : Int) : evMM false (some (.int .i64 a)) (some (.int .i64 b)) = some (sv (.int .i64 (min a b))) := by
  have h : (if b < a then b else a) = min a b := by split <;> omega
  simp only [evMM, Bool.false_eq_true, if_false, h]

section
variable {P : Program} {C : Cfg} {Q : Ex → Env → Objs → Prop} {env : Env} {objs : Objs}
theorem A_cnd_unk {x : Operand} {c d : Code} (hx : rd1 env x = some .unkB) (h1 : A P c Q env objs) (h2 : A P d Q env objs) : A P (.cond x c d) Q env objs := by
  intro Φ θ base w a hs R hR
  have hr := rd1_ok hs.env hx
  obtain ⟨b, hb⟩ := hr
  cases b with
  | true => exact wp_cond_true hb (h1 Φ θ base w a hs R hR)
  | false => exact wp_cond_false hb (h2 Φ θ base w a hs R hR)
end

end Go.Vm

/- Functions out of code: W runs a code tree on the evaluator's states and goes on with k; loops run on typed states. What W answers, the code does. -/
set_option linter.unusedVariables false
set_option linter.unusedSimpArgs false
namespace Go.Vm
open Go Go.RowKit

section
variable {σ β : Type}
def iterN (step : σ → Option (σ ⊕ β)) : Nat → σ → Option β
  | 0, _ => none
  | n + 1, s => match step s with
    | some (.inl s') => iterN step n s'
    | some (.inr r) => some r
    | none => none

theorem iterN_mono {step : σ → Option (σ ⊕ β)} : ∀ {n m : Nat} {s : σ} {r : β}, n ≤ m → iterN step n s = some r → iterN step m s = some r
  | 0, _, _, _, _, h => by simp [iterN] at h
  | n + 1, 0, _, _, hle, _ => by omega
  | n + 1, m + 1, s, r, hle, h => by
    simp only [iterN] at h ⊢
    split at h
    · exact iterN_mono (by omega) h
    · exact h
    · cases h

open Classical in
noncomputable def run (step : σ → Option (σ ⊕ β)) (s : σ) : Option β :=
  if h : ∃ r n, iterN step n s = some r then some h.choose else none

theorem run_of {step : σ → Option (σ ⊕ β)} {s : σ} {r : β} {n : Nat} (h : iterN step n s = some r) : run step s = some r := by
  have hex : ∃ r n, iterN step n s = some r := ⟨r, n, h⟩
  unfold run
  rw [dif_pos hex]
  obtain ⟨m, hm⟩ := hex.choose_spec
  have h1 := iterN_mono (Nat.le_max_left n m) h
  have h2 := iterN_mono (Nat.le_max_right n m) hm
  rw [h1] at h2
  injection h2 with h2
  rw [← h2]

theorem of_run {step : σ → Option (σ ⊕ β)} {s : σ} {r : β} (h : run step s = some r) : ∃ n, iterN step n s = some r := by
  unfold run at h
  split at h
  · rename_i hex
    injection h with h
    obtain ⟨m, hm⟩ := hex.choose_spec
    exact ⟨m, by rw [← h]; exact hm⟩
  · cases h

theorem run_eq (step : σ → Option (σ ⊕ β)) (s : σ) : run step s = match step s with
    | some (.inl s') => run step s'
    | some (.inr r) => some r
    | none => none := by
  cases hs : step s with
  | none =>
    simp only
    cases hr : run step s with
    | none => rfl
    | some r =>
      obtain ⟨n, hn⟩ := of_run hr
      cases n with
      | zero => simp [iterN] at hn
      | succ n => simp [iterN, hs] at hn
  | some x =>
    cases x with
    | inr r => exact run_of (n := 1) (by simp [iterN, hs])
    | inl s' =>
      simp only
      cases hr : run step s' with
      | some r =>
        obtain ⟨n, hn⟩ := of_run hr
        exact run_of (n := n + 1) (by simp [iterN, hs, hn])
      | none =>
        cases hq : run step s with
        | none => rfl
        | some r =>
          obtain ⟨n, hn⟩ := of_run hq
          cases n with
          | zero => simp [iterN] at hn
          | succ n =>
            simp only [iterN, hs] at hn
            rw [run_of hn] at hr
            cases hr
end

structure Ann where
  σ : Type
  st : σ → Env × Objs
  un : Env → Objs → Option σ
  ok : ∀ e o s, un e o = some s → st s = (e, o)
  c : Cfg → Cfg := fun C => C

inductive LoopA where
  | un
  | ty (an : Ann)
  | tr (an : Ann)

abbrev Kon (R : Type) := Ex → Env → Objs → Option R

section
variable {R : Type}
def kseq (w : Env → Objs → Kon R → Option R) (k : Kon R) : Kon R
  | .normal, e, o => w e o k
  | ex, e, o => k ex e o
def kblk (id : Nat) (k : Kon R) : Kon R
  | .exit i, e, o => if i = id then k .normal e o else k (.exit i) e o
  | ex, e, o => k ex e o
def kloop (C : Cfg) (L id : Nat) (an : Ann) (k : Kon R) : Kon (an.σ ⊕ (an.σ ⊕ R))
  | .normal, e, o => (an.un (settle (an.c C) L e o).1 (settle (an.c C) L e o).2).bind fun s => some (.inl s)
  | .exit i, e, o => if i = id then (an.un (settle (an.c C) L e o).1 (settle (an.c C) L e o).2).bind fun s => some (.inr (.inl s)) else (k (.exit i) e o).bind fun r => some (.inr (.inr r))
  | ex, e, o => (k ex e o).bind fun r => some (.inr (.inr r))
def kloopT (C : Cfg) (L id : Nat) (an : Ann) : Kon (an.σ ⊕ (an.σ ⊕ an.σ))
  | .normal, e, o => (an.un (settle (an.c C) L e o).1 (settle (an.c C) L e o).2).bind fun s => some (.inl s)
  | .exit i, e, o => if i = id then (an.un (settle (an.c C) L e o).1 (settle (an.c C) L e o).2).bind fun s => some (.inr (.inl s)) else none
  | .ret, e, o => (an.un (settle (an.c C) L e o).1 (settle (an.c C) L e o).2).bind fun s => some (.inr (.inr s))
  | _, _, _ => none
def koutT (an : Ann) (k : Kon R) : an.σ ⊕ an.σ → Option R
  | .inl s => k .normal (an.st s).1 (an.st s).2
  | .inr s => k .ret (an.st s).1 (an.st s).2
def kout (an : Ann) (k : Kon R) : an.σ ⊕ R → Option R
  | .inl s => k .normal (an.st s).1 (an.st s).2
  | .inr r => some r
def kgoto (C : Cfg) (L l : Nat) (an : Ann) (k : Kon R) : Kon (an.σ ⊕ R)
  | .goto i, e, o => if i = l then (an.un (settle C L e o).1 (settle C L e o).2).bind fun s => some (.inl s) else none
  | ex, e, o => (k ex e o).bind fun r => some (.inr r)
end

structure Lab where
  l : Nat
  L : Nat
  an : Ann

section
variable {R : Type}
def kun (next : Env → Objs → Option R) (id : Nat) (k : Kon R) : Kon R
  | .normal, e, o => next e o
  | .exit i, e, o => if i = id then k .normal e o else k (.exit i) e o
  | ex, e, o => k ex e o
def wun (C : Cfg) (L id : Nat) (w : Env → Objs → Kon R → Option R) (k : Kon R) : Nat → Env → Objs → Option R
  | 0, _, _ => none
  | m + 1, e, o => w (settle C L e o).1 (settle C L e o).2 (kun (wun C L id w k m) id k)
open Classical in
noncomputable def wboth (p q : Option R) : Option R := if p = q then p else none
noncomputable def wcond (x : Option CV) (b : Option Bool) (p q : Option R) : Option R :=
  match x with
  | some .unkB => wboth p q
  | _ => b.bind fun c => if c = true then p else q
noncomputable def kscope (C : Cfg) (lb : Lab) (step : lb.an.σ → Option (lb.an.σ ⊕ R)) (k : Kon R) : Kon R
  | .goto i, e, o => if i = lb.l ∧ o.length ≤ lb.L then (lb.an.un (settle C lb.L e o).1 (settle C lb.L e o).2).bind fun s => run step s else none
  | ex, e, o => k ex e o
end

def splitL (l : Nat) : Code → Option (Code × Code)
  | .seq a b => match a with
    | .label i => if i = l then some (.goto l, b) else (splitL l b).map fun p => (.seq (.label i) p.1, p.2)
    | a => if (findLabel a l).isNone then (splitL l b).map fun p => (.seq a p.1, p.2) else none
  | _ => none

noncomputable def W (C : Cfg) (T : List (Nat × LoopA)) (G : List Lab) : {R : Type} → Nat → Code → Env → Objs → Kon R → Option R
  | _, 0, _, _, _, _ => none
  | R, n + 1, c, env, objs, k => match c with
    | .skip => k .normal env objs
    | .label _ => k .normal env objs
    | .region id ops draw => (evReg C id ops draw env objs).bind fun p => k .normal p.1 p.2
    | .seq a b => W C T G n a env objs (kseq (fun e o k => W C T G n b e o k) k)
    | .cond x a b => wcond (rd1 env x) (rdB env x) (W C T G n a env objs k) (W C T G n b env objs k)
    | .block id b => match b with
      | .loop d => match T.lookup id with
        | some .un => wun C objs.length id (fun e o k => W C T G n d e o k) k 60 env objs
        | some (.tr an) => (an.un (settle (an.c C) objs.length env objs).1 (settle (an.c C) objs.length env objs).2).bind fun s =>
            (run (fun s => W C T G n d (an.st s).1 (an.st s).2 (kloopT C objs.length id an)) s).bind (koutT an k)
        | some (.ty an) => (an.un (settle (an.c C) objs.length env objs).1 (settle (an.c C) objs.length env objs).2).bind fun s =>
            (run (fun s => W C T G n d (an.st s).1 (an.st s).2 (kloop C objs.length id an k)) s).bind (kout an k)
        | none => none
      | b => W C T G n b env objs (kblk id k)
    | .scope b => match G with
      | [lb] => match splitL lb.l b with
        | some p => if objs.length ≤ lb.L then W C T G n p.1 env objs (kscope C lb (fun s => W C T G n p.2 (lb.an.st s).1 (lb.an.st s).2 (kgoto C lb.L lb.l lb.an k)) k) else none
        | none => none
      | _ => none
    | .exit id => k (.exit id) env objs
    | .goto l => k (.goto l) env objs
    | .ret => k .ret env objs
    | _ => none

section
variable {P : Program} {C : Cfg}

theorem A_settle {c : Code} {Q : Ex → Env → Objs → Prop} {env : Env} {objs : Objs} (L : Nat) (hL : objs.length = L) (h : A P c (fun ex e o => Q ex e o ∨ Q ex (settle C L e o).1 (settle C L e o).2) env objs) : A P c Q env objs := by
  intro Φ θ base w a hs R hR
  refine h Φ θ base w a hs R fun ex e o Φ' θ' w' a' hq hg hs' hd => ?_
  rcases hq with hq | hq
  · exact hR ex e o Φ' θ' w' a' hq hg hs' hd
  · obtain ⟨Φ3, hle3, hnew3, hs3, hgo3⟩ := settle_ok (C := C) L hs'
    exact hR ex _ _ Φ3 θ' w' a' hq ⟨hg.le.trans hle3, hgo3 θ objs (by omega) hg.go, fun b o hb => (hnew3 b o hb).trans (hg.new b o hb), hg.below⟩ hs3 hd

theorem A_settle0 {c : Code} {Q : Ex → Env → Objs → Prop} {env : Env} {objs : Objs} (L : Nat) (hL : objs.length ≤ L) (h : A P c Q (settle C L env objs).1 (settle C L env objs).2) : A P c Q env objs := by
  intro Φ θ base w a hs R hR
  obtain ⟨Φ3, hle3, hnew3, hs3, hgo3⟩ := settle_ok (C := C) L hs
  refine h Φ3 θ base w a hs3 R fun ex e o Φ' θ' w' a' hq hg hs' hd => ?_
  refine hR ex e o Φ' θ' w' a' hq ?_ hs' hd
  exact Goes.trans ⟨hle3, hgo3 θ objs (by omega) (Go2.refl _ _), hnew3, Below.refl _ _⟩ hg

theorem A_scope2 {c : Code} {Q : Ex → Env → Objs → Prop} {env : Env} {objs : Objs} (L : Nat) (R : Nat → Code → Env → Objs → Prop) (hL : objs.length ≤ L)
    (h0 : A P c (fun e env' objs' => match e with
      | .goto l => match findLabel c l with
        | some rest => ∃ m, R m rest (settle C L env' objs').1 (settle C L env' objs').2
        | none => Q (.goto l) env' objs'
      | e => Q e env' objs') env objs)
    (hstep : ∀ n d env objs, R n d env objs → A P d (fun e env' objs' => match e with
      | .goto l => match findLabel c l with
        | some rest => ∃ m, m < n ∧ R m rest (settle C L env' objs').1 (settle C L env' objs').2
        | none => Q (.goto l) env' objs'
      | e => Q e env' objs') env objs) : A P (.scope c) Q env objs := by
  intro Φ θ base w a hs R' hR' b k cs
  have one : ∀ (lim : Nat → Prop) (d : Code) (env1 : Env) (objs1 : Objs), A P d (fun e env' objs' => match e with
      | .goto l => match findLabel c l with
        | some rest => ∃ m, lim m ∧ R m rest (settle C L env' objs').1 (settle C L env' objs').2
        | none => Q (.goto l) env' objs'
      | e => Q e env' objs') env1 objs1 → ∀ Φ1 θ1 w1 (a1 : Act), Goes Φ θ base w objs Φ1 θ1 w1 objs1 → StR Φ1 θ1 base w1 env1 objs1 a1.tmps → a1.defers = a.defers →
      (∀ m, lim m → ∀ (d : Code) (env1 : Env) (objs1 : Objs), R m d env1 objs1 → ∀ Φ1 θ1 w1 (a1 : Act), Goes Φ θ base w objs Φ1 θ1 w1 objs1 → StR Φ1 θ1 base w1 env1 objs1 a1.tmps → a1.defers = a.defers →
        ∃ e a' w', R' e a' w' ∧ Arrives P (lone (b.at a1 (.code d :: .inScope c :: k)) cs w1) b k cs e a' w') →
      ∃ e a' w', R' e a' w' ∧ Arrives P (lone (b.at a1 (.code d :: .inScope c :: k)) cs w1) b k cs e a' w' := by
    intro lim d env1 objs1 hA Φ1 θ1 w1 a1 hg1 hs1 hd1 ih
    have h := hA Φ1 θ1 base w1 a1 hs1 (fun e a' w' => match e with
      | .goto l => match findLabel c l with
        | some rest => ∃ m env2 objs2 Φ2 θ2, lim m ∧ R m rest env2 objs2 ∧ Goes Φ θ base w objs Φ2 θ2 w' objs2 ∧ StR Φ2 θ2 base w' env2 objs2 a'.tmps ∧ a'.defers = a.defers
        | none => R' (.goto l) a' w'
      | e => R' e a' w') (fun e env2 objs2 Φ2 θ2 w2 a2 hq hg2 hs2 hd2 => by
        have hg := hg1.trans hg2
        cases e with
        | normal => exact hR' .normal env2 objs2 Φ2 θ2 w2 a2 hq hg hs2 (hd2.trans hd1)
        | ret => exact hR' .ret env2 objs2 Φ2 θ2 w2 a2 hq hg hs2 (hd2.trans hd1)
        | exit i => exact hR' (.exit i) env2 objs2 Φ2 θ2 w2 a2 hq hg hs2 (hd2.trans hd1)
        | goto l =>
          simp only at hq
          split at hq
          · rename_i rest hrest
            obtain ⟨m, hm, hr2⟩ := hq
            obtain ⟨Φ3, hle3, hnew3, hs3, hgo3⟩ := settle_ok (C := C) L hs2
            simp only [exitOf, hrest]
            exact ⟨m, _, _, Φ3, θ2, hm, hr2, ⟨hg.le.trans hle3, hgo3 θ objs (by omega) hg.go, fun b o hb => (hnew3 b o hb).trans (hg.new b o hb), hg.below⟩, hs3, hd2.trans hd1⟩
          · rename_i hrest
            simp only [exitOf, hrest]
            exact hR' (.goto l) env2 objs2 Φ2 θ2 w2 a2 hq hg hs2 (hd2.trans hd1)) b (.inScope c :: k) cs
    obtain ⟨e, a2, w2, hq, harr⟩ := h
    cases e with
    | normal => exact ⟨.normal, a2, w2, hq, Steps.trans harr (.one step_inScope)⟩
    | exit id => exact ⟨.exit id, a2, w2, hq, fun k' hk => harr k' (by simp [exitTo, hk])⟩
    | goto l =>
      simp only at hq
      split at hq
      · rename_i rest hrest
        obtain ⟨m, env2, objs2, Φ2, θ2, hm, hr2, hg2, hs2, hd2⟩ := hq
        obtain ⟨e3, a3, w3, hq3, harr3⟩ := ih m hm rest env2 objs2 hr2 Φ2 θ2 w2 a2 hg2 hs2 hd2
        exact ⟨e3, a3, w3, hq3, .of_steps (harr _ (by simp [gotoIn, hrest])) harr3⟩
      · rename_i hrest
        exact ⟨.goto l, a2, w2, hq, fun k' hk => harr k' (by simp [gotoIn, hrest, hk])⟩
    | ret => exact ⟨_, a2, w2, hq, harr⟩
    | panic ch => exact ⟨_, a2, w2, hq, harr⟩
    | outgrown => exact ⟨_, a2, w2, hq, harr⟩
  have key : ∀ (N n : Nat), n < N → ∀ (d : Code) (env1 : Env) (objs1 : Objs), R n d env1 objs1 → ∀ Φ1 θ1 w1 (a1 : Act), Goes Φ θ base w objs Φ1 θ1 w1 objs1 → StR Φ1 θ1 base w1 env1 objs1 a1.tmps → a1.defers = a.defers →
      ∃ e a' w', R' e a' w' ∧ Arrives P (lone (b.at a1 (.code d :: .inScope c :: k)) cs w1) b k cs e a' w' := by
    intro N
    induction N with
    | zero => intro n hn; omega
    | succ N ih =>
      intro n hn d env1 objs1 hr Φ1 θ1 w1 a1 hg1 hs1 hd1
      exact one (fun m => m < n) d env1 objs1 (hstep n d env1 objs1 hr) Φ1 θ1 w1 a1 hg1 hs1 hd1 fun m hm => ih m (by omega)
  obtain ⟨e, a', w', hq, harr⟩ := one (fun _ => True) c env objs (by
    refine h0.mono fun e env' objs' hq => ?_
    cases e with
    | goto l =>
      simp only at hq ⊢
      split at hq
      · rename_i rest hrest
        obtain ⟨m, hm⟩ := hq
        exact ⟨m, trivial, hm⟩
      · exact hq
    | _ => exact hq) Φ θ w a (Goes.refl _ _ _ _ _) hs rfl (fun m _ => key (m + 1) m (by omega))
  exact ⟨e, a', w', hq, .of_steps (.one step_scope) harr⟩

theorem splitL_find {l : Nat} : ∀ (c pre rest : Code), splitL l c = some (pre, rest) → findLabel c l = some (.seq .skip rest)
  | .seq a b, pre, rest, h => by
    unfold splitL at h
    split at h
    · rename_i i
      split at h
      · rename_i hi
        injection h with h; injection h with h1 h2
        subst h2; subst hi
        simp [findLabel]
      · rename_i hi
        simp only [Option.map_eq_some_iff] at h
        obtain ⟨p, hp, he⟩ := h
        injection he with h1 h2
        subst h2
        have := splitL_find b p.1 p.2 hp
        simp [findLabel, hi, this]
    · split at h
      · rename_i hn
        simp only [Option.map_eq_some_iff] at h
        obtain ⟨p, hp, he⟩ := h
        injection he with h1 h2
        subst h2
        have := splitL_find b p.1 p.2 hp
        rw [Option.isNone_iff_eq_none] at hn
        simp [findLabel, hn, this]
      · cases h
  | .skip, _, _, h | .region .., _, _, h | .cond .., _, _, h | .loop _, _, _, h | .block .., _, _, h | .exit _, _, _, h | .ret, _, _, h | .label _, _, _, h | .goto _, _, _, h | .scope _, _, _, h | .rangeFunc .., _, _, h => by simp [splitL] at h

theorem splitL_stat {l : Nat} : ∀ (c pre rest : Code), splitL l c = some (pre, rest) → stat C c = true → stat C pre = true ∧ stat C rest = true
  | .seq a b, pre, rest, h, hst => by
    have hst' : stat C a = true ∧ stat C b = true := by simpa [stat] using hst
    unfold splitL at h
    split at h
    · rename_i i
      split at h
      · injection h with h; injection h with h1 h2
        subst h1; subst h2
        exact ⟨rfl, hst'.2⟩
      · simp only [Option.map_eq_some_iff] at h
        obtain ⟨p, hp, he⟩ := h
        injection he with h1 h2
        subst h1; subst h2
        have := splitL_stat b p.1 p.2 hp hst'.2
        exact ⟨by simp [stat, this.1], this.2⟩
    · split at h
      · simp only [Option.map_eq_some_iff] at h
        obtain ⟨p, hp, he⟩ := h
        injection he with h1 h2
        subst h1; subst h2
        have := splitL_stat b p.1 p.2 hp hst'.2
        exact ⟨by simp [stat, this.1, hst'.1], this.2⟩
      · cases h
  | .skip, _, _, h, _ | .region .., _, _, h, _ | .cond .., _, _, h, _ | .loop _, _, _, h, _ | .block .., _, _, h, _ | .exit _, _, _, h, _ | .ret, _, _, h, _ | .label _, _, _, h, _ | .goto _, _, _, h, _ | .scope _, _, _, h, _ | .rangeFunc .., _, _, h, _ => by simp [splitL] at h

theorem A_cond_unk {Q : Ex → Env → Objs → Prop} {env : Env} {objs : Objs} {x : Operand} {c d : Code} (hx : rd1 env x = some .unkB) (h1 : A P c Q env objs) (h2 : A P d Q env objs) : A P (.cond x c d) Q env objs := by
  intro Φ θ base w a hs R hR
  have hr := rd1_ok hs.env hx
  obtain ⟨b, hb⟩ := hr
  cases b with
  | true => exact wp_cond_true hb (h1 Φ θ base w a hs R hR)
  | false => exact wp_cond_false hb (h2 Φ θ base w a hs R hR)

theorem W_ok (hE : Env1 P C) {T : List (Nat × LoopA)} {G : List Lab} : ∀ (n : Nat) {R : Type} (c : Code) (env : Env) (objs : Objs) (k : Kon R) (r : R), stat C c = true → W C T G n c env objs k = some r →
    A P c (fun ex e o => k ex e o = some r) env objs := by
  intro n
  induction n using Nat.strongRecOn with
  | _ n0 ih0 =>
  cases n0 with
  | zero => intro R c env objs k r _ h; simp [W] at h
  | succ n =>
    intro R c env objs k r hst h
    have ih := fun {R : Type} => @ih0 n (by omega) R
    cases c with
    | skip => exact A_skip (by simpa [W] using h)
    | label i => exact A_label (by simpa [W] using h)
    | exit i => exact A_exit (by simpa [W] using h)
    | goto i => exact A_goto (by simpa [W] using h)
    | ret => exact A_ret (by simpa [W] using h)
    | rangeFunc f ps as b => simp [W] at h
    | refuse _ => simp [W] at h
    | region id ops draw =>
      simp only [W, Option.bind_eq_some_iff] at h
      obtain ⟨p, hp, hk⟩ := h
      exact A_region hE.cfg hE.calls hE.mixed hst hp hk
    | seq a b =>
      have hst' : stat C a = true ∧ stat C b = true := by simpa [stat] using hst
      simp only [W] at h
      refine A_seq ((ih a env objs _ r hst'.1 h).mono fun ex e o hq => ?_)
      cases ex with
      | normal => exact ih b e o k r hst'.2 hq
      | exit i => exact hq
      | goto i => exact hq
      | ret => exact hq
    | cond x a b =>
      have hst' : stat C a = true ∧ stat C b = true := by simpa [stat] using hst
      simp only [W] at h
      unfold wcond at h
      split at h
      · rename_i hx
        unfold wboth at h
        split at h
        · rename_i hpq
          exact A_cond_unk hx (ih a env objs k r hst'.1 h) (ih b env objs k r hst'.2 (by rw [← hpq]; exact h))
        · cases h
      simp only [Option.bind_eq_some_iff] at h
      obtain ⟨c, hc, h⟩ := h
      refine A_cond hc ⟨fun hb => ?_, fun hb => ?_⟩
      · rw [if_pos hb] at h; exact ih a env objs k r hst'.1 h
      · rw [if_neg (by simp [hb])] at h; exact ih b env objs k r hst'.2 h
    | loop b => simp [W] at h
    | block id b =>
      have hsb : stat C b = true := by simpa [stat] using hst
      have blk : W C T G n b env objs (kblk id k) = some r → A P (.block id b) (fun ex e o => k ex e o = some r) env objs := fun h => by
        refine A_block ((ih b env objs _ r hsb h).mono fun ex e o hq => ?_)
        cases ex with
        | exit i =>
          simp only [kblk] at hq
          simp only [Ex.blk]
          split at hq
          · rename_i hi; rw [if_pos hi]; exact hq
          · rename_i hi; rw [if_neg hi]; exact hq
        | normal => exact hq
        | goto i => exact hq
        | ret => exact hq
      cases b with
      | loop d =>
        have hsd : stat C d = true := by simpa [stat] using hsb
        simp only [W] at h
        split at h
        case h_4 => cases h
        case h_2 an han =>
          simp only [Option.bind_eq_some_iff] at h
          obtain ⟨s, hs, x, hx, hk⟩ := h
          obtain ⟨m, hm⟩ := of_run hx
          refine A_block (A_settle (C := an.c C) objs.length rfl (A_loop (C := an.c C) objs.length (fun m e o => ∃ s, an.st s = (e, o) ∧ iterN (fun s => W C T G n d (an.st s).1 (an.st s).2 (kloopT C objs.length id an)) m s = some x) rfl ⟨m, s, an.ok _ _ _ hs, hm⟩ ?_))
          rintro m e o ⟨s, hse, hit⟩
          cases m with
          | zero => simp [iterN] at hit
          | succ m =>
            simp only [iterN] at hit
            split at hit
            case h_3 => cases hit
            case h_1 s' hstep =>
              have := ih d _ _ _ _ hsd hstep
              rw [hse] at this
              refine this.mono fun ex e1 o1 hq => ?_
              cases ex with
              | normal =>
                simp only [kloopT, Option.bind_eq_some_iff, Option.some.injEq, Sum.inl.injEq] at hq
                obtain ⟨s2, hs2, rfl⟩ := hq
                exact ⟨m, by omega, s2, an.ok _ _ _ hs2, hit⟩
              | exit i =>
                simp only [kloopT] at hq
                split at hq
                · simp only [Option.bind_eq_some_iff, Option.some.injEq] at hq
                  obtain ⟨_, _, hq⟩ := hq
                  cases hq
                · cases hq
              | goto i => simp [kloopT] at hq
              | ret =>
                simp only [kloopT, Option.bind_eq_some_iff, Option.some.injEq] at hq
                obtain ⟨_, _, hq⟩ := hq
                cases hq
            case h_2 y hstep =>
              have := ih d _ _ _ _ hsd hstep
              rw [hse] at this
              injection hit with hit; subst hit
              refine this.mono fun ex e1 o1 hq => ?_
              cases ex with
              | normal =>
                simp only [kloopT, Option.bind_eq_some_iff, Option.some.injEq] at hq
                obtain ⟨_, _, hq⟩ := hq
                cases hq
              | exit i =>
                simp only [kloopT] at hq
                simp only [Ex.then, Ex.blk]
                split at hq
                · rename_i hi
                  simp only [Option.bind_eq_some_iff, Option.some.injEq, Sum.inr.injEq] at hq
                  obtain ⟨s2, hs2, rfl⟩ := hq
                  have hok := an.ok _ _ _ hs2
                  simp only [koutT] at hk
                  rw [hok] at hk
                  right
                  rw [if_pos hi]
                  exact hk
                · cases hq
              | goto i => simp [kloopT] at hq
              | ret =>
                simp only [kloopT, Option.bind_eq_some_iff, Option.some.injEq, Sum.inr.injEq] at hq
                obtain ⟨s2, hs2, rfl⟩ := hq
                have hok := an.ok _ _ _ hs2
                simp only [koutT] at hk
                rw [hok] at hk
                exact .inr hk
        case h_1 =>
          have key : ∀ (m : Nat) (e : Env) (o : Objs), wun C objs.length id (fun e o k => W C T G n d e o k) k (m + 1) e o = some r → W C T G n d (settle C objs.length e o).1 (settle C objs.length e o).2 (kun (wun C objs.length id (fun e o k => W C T G n d e o k) k m) id k) = some r := fun m e o h => h
          refine A_block (A_loop (C := C) objs.length (fun m e o => W C T G n d e o (kun (wun C objs.length id (fun e o k => W C T G n d e o k) k m) id k) = some r) rfl ⟨59, key 59 env objs h⟩ ?_)
          intro m e o hm
          refine (ih d _ _ _ _ hsd hm).mono fun ex e1 o1 hq => ?_
          cases ex with
          | normal =>
            simp only [kun] at hq
            cases m with
            | zero => simp [wun] at hq
            | succ m => exact ⟨m, by omega, key m _ _ hq⟩
          | exit i =>
            simp only [kun] at hq
            simp only [Ex.then, Ex.blk]
            split at hq
            · rename_i hi; rw [if_pos hi]; exact hq
            · rename_i hi; rw [if_neg hi]; exact hq
          | goto i => exact hq
          | ret => exact hq
        rename_i an han
        simp only [Option.bind_eq_some_iff] at h
        obtain ⟨s, hs, x, hx, hk⟩ := h
        obtain ⟨m, hm⟩ := of_run hx
        refine A_block (A_settle (C := an.c C) objs.length rfl (A_loop (C := an.c C) objs.length (fun m e o => ∃ s, an.st s = (e, o) ∧ iterN (fun s => W C T G n d (an.st s).1 (an.st s).2 (kloop C objs.length id an k)) m s = some x) rfl ⟨m, s, an.ok _ _ _ hs, hm⟩ ?_))
        rintro m e o ⟨s, hse, hit⟩
        cases m with
        | zero => simp [iterN] at hit
        | succ m =>
          simp only [iterN] at hit
          split at hit
          case h_3 => cases hit
          case h_1 s' hstep =>
            have := ih d _ _ _ _ hsd hstep
            rw [hse] at this
            refine this.mono fun ex e1 o1 hq => ?_
            cases ex with
            | normal =>
              simp only [kloop, Option.bind_eq_some_iff, Option.some.injEq, Sum.inl.injEq] at hq
              obtain ⟨s2, hs2, rfl⟩ := hq
              exact ⟨m, by omega, s2, an.ok _ _ _ hs2, hit⟩
            | exit i =>
              simp only [kloop] at hq
              split at hq
              · simp only [Option.bind_eq_some_iff, Option.some.injEq] at hq
                obtain ⟨_, _, hq⟩ := hq
                cases hq
              · simp only [Option.bind_eq_some_iff, Option.some.injEq] at hq
                obtain ⟨_, _, hq⟩ := hq
                cases hq
            | goto i =>
              simp only [kloop, Option.bind_eq_some_iff, Option.some.injEq] at hq
              obtain ⟨_, _, hq⟩ := hq
              cases hq
            | ret =>
              simp only [kloop, Option.bind_eq_some_iff, Option.some.injEq] at hq
              obtain ⟨_, _, hq⟩ := hq
              cases hq
          case h_2 y hstep =>
            have := ih d _ _ _ _ hsd hstep
            rw [hse] at this
            injection hit with hit; subst hit
            refine this.mono fun ex e1 o1 hq => ?_
            have out : ∀ r', (k ex e1 o1) = some r' → y = .inr r' → k ex e1 o1 = some r := fun r' h1 h2 => by
              subst h2
              simp only [kout, Option.some.injEq] at hk
              rw [h1, hk]
            cases ex with
            | normal =>
              simp only [kloop, Option.bind_eq_some_iff, Option.some.injEq] at hq
              obtain ⟨_, _, hq⟩ := hq
              cases hq
            | exit i =>
              simp only [kloop] at hq
              simp only [Ex.then, Ex.blk]
              split at hq
              · rename_i hi
                simp only [Option.bind_eq_some_iff, Option.some.injEq, Sum.inr.injEq] at hq
                obtain ⟨s2, hs2, rfl⟩ := hq
                have hok := an.ok _ _ _ hs2
                simp only [kout] at hk
                rw [hok] at hk
                right
                rw [if_pos hi]
                exact hk
              · rename_i hi
                simp only [Option.bind_eq_some_iff, Option.some.injEq, Sum.inr.injEq] at hq
                obtain ⟨r', hr', rfl⟩ := hq
                left
                rw [if_neg hi]
                exact out r' hr' rfl
            | goto i =>
              simp only [kloop, Option.bind_eq_some_iff, Option.some.injEq, Sum.inr.injEq] at hq
              obtain ⟨r', hr', rfl⟩ := hq
              exact .inl (out r' hr' rfl)
            | ret =>
              simp only [kloop, Option.bind_eq_some_iff, Option.some.injEq, Sum.inr.injEq] at hq
              obtain ⟨r', hr', rfl⟩ := hq
              exact .inl (out r' hr' rfl)
      | _ => exact blk (by simpa [W] using h)
    | scope b =>
      have hsb : stat C b = true := by simpa [stat] using hst
      simp only [W] at h
      split at h
      case h_2 => cases h
      rename_i lb
      split at h
      case h_2 => cases h
      rename_i p hp
      obtain ⟨pre, rest⟩ := p
      have hfl := splitL_find b pre rest hp
      have hstp := splitL_stat (C := C) b pre rest hp hsb
      split at h
      case isFalse => cases h
      rename_i hLe
      obtain ⟨stp, hstpe⟩ : ∃ f, f = (fun s => W C T [lb] n rest (lb.an.st s).1 (lb.an.st s).2 (kgoto C lb.L lb.l lb.an k)) := ⟨_, rfl⟩
      simp only at h
      rw [← hstpe] at h
      obtain ⟨Rr, hRr⟩ : ∃ Rr : Nat → Code → Env → Objs → Prop, Rr = (fun m d e o => ∃ s, d = .seq .skip rest ∧ lb.an.st s = (e, o) ∧ iterN stp m s = some r) := ⟨_, rfl⟩
      have one : ∀ (m : Nat) (s : lb.an.σ), iterN stp m s = some r → A P rest (fun e env' objs' => match e with
          | .goto l => match findLabel b l with
            | some rest' => ∃ m', m' < m ∧ Rr m' rest' (settle C lb.L env' objs').1 (settle C lb.L env' objs').2
            | none => k (.goto l) env' objs' = some r
          | e => k e env' objs' = some r) (lb.an.st s).1 (lb.an.st s).2 := by
        intro m s hit
        cases m with
        | zero => simp [iterN] at hit
        | succ m =>
          simp only [iterN] at hit
          split at hit
          case h_3 => cases hit
          case h_1 s' hstep =>
            rw [hstpe] at hstep
            refine (ih rest _ _ _ _ hstp.2 hstep).mono fun ex e1 o1 hq => ?_
            cases ex with
            | goto i =>
              simp only [kgoto] at hq
              split at hq
              · rename_i hi
                subst hi
                simp only [Option.bind_eq_some_iff, Option.some.injEq, Sum.inl.injEq] at hq
                obtain ⟨s2, hs2, rfl⟩ := hq
                simp only [hfl]
                rw [hRr]
                exact ⟨m, by omega, s2, rfl, lb.an.ok _ _ _ hs2, hit⟩
              · cases hq
            | normal =>
              simp only [kgoto, Option.bind_eq_some_iff, Option.some.injEq] at hq
              obtain ⟨_, _, hq⟩ := hq
              cases hq
            | exit i =>
              simp only [kgoto, Option.bind_eq_some_iff, Option.some.injEq] at hq
              obtain ⟨_, _, hq⟩ := hq
              cases hq
            | ret =>
              simp only [kgoto, Option.bind_eq_some_iff, Option.some.injEq] at hq
              obtain ⟨_, _, hq⟩ := hq
              cases hq
          case h_2 y hstep =>
            injection hit with hit; subst hit
            rw [hstpe] at hstep
            refine (ih rest _ _ _ _ hstp.2 hstep).mono fun ex e1 o1 hq => ?_
            cases ex with
            | goto i =>
              simp only [kgoto] at hq
              split at hq
              · simp only [Option.bind_eq_some_iff, Option.some.injEq] at hq
                obtain ⟨_, _, hq⟩ := hq
                cases hq
              · cases hq
            | normal =>
              simp only [kgoto, Option.bind_eq_some_iff, Option.some.injEq, Sum.inr.injEq] at hq
              obtain ⟨_, hr, rfl⟩ := hq
              exact hr
            | exit i =>
              simp only [kgoto, Option.bind_eq_some_iff, Option.some.injEq, Sum.inr.injEq] at hq
              obtain ⟨_, hr, rfl⟩ := hq
              exact hr
            | ret =>
              simp only [kgoto, Option.bind_eq_some_iff, Option.some.injEq, Sum.inr.injEq] at hq
              obtain ⟨_, hr, rfl⟩ := hq
              exact hr
      have jump : ∀ i e o, kscope C lb stp k (.goto i) e o = some r → i = lb.l ∧ o.length ≤ lb.L ∧ ∃ s m, lb.an.st s = ((settle C lb.L e o).1, (settle C lb.L e o).2) ∧ iterN stp m s = some r := by
        intro i e o hk
        simp only [kscope] at hk
        split at hk
        · rename_i hi
          simp only [Option.bind_eq_some_iff] at hk
          obtain ⟨s, hs, hr⟩ := hk
          obtain ⟨m, hm⟩ := of_run hr
          exact ⟨hi.1, hi.2, s, m, lb.an.ok _ _ _ hs, hm⟩
        · cases hk
      have spine : ∀ (c pre' : Code), splitL lb.l c = some (pre', rest) → stat C c = true → ∀ (j : Nat), j ≤ n → ∀ (env : Env) (objs1 : Objs), W C T [lb] j pre' env objs1 (kscope C lb stp k) = some r → A P c (fun e env' objs' => match e with
          | .goto l => match findLabel b l with
            | some rest' => ∃ m', Rr m' rest' (settle C lb.L env' objs').1 (settle C lb.L env' objs').2
            | none => k (.goto l) env' objs' = some r
          | e => k e env' objs' = some r) env objs1 := by
        intro c
        induction c with
        | seq a b' _ ihb =>
          intro pre' hsp hstc j hj env1 objs1 hw
          have hst' : stat C a = true ∧ stat C b' = true := by simpa [stat] using hstc
          have gen : ∀ p', splitL lb.l b' = some (p', rest) → pre' = .seq a p' → A P (.seq a b') (fun e env' objs' => match e with
              | .goto l => match findLabel b l with
                | some rest' => ∃ m', Rr m' rest' (settle C lb.L env' objs').1 (settle C lb.L env' objs').2
                | none => k (.goto l) env' objs' = some r
              | e => k e env' objs' = some r) env1 objs1 := by
            intro p' hp' he
            subst he
            cases j with
            | zero => simp [W] at hw
            | succ j =>
              simp only [W] at hw
              refine A_seq ((ih0 j (by omega) a env1 objs1 _ r hst'.1 hw).mono fun ex e o hq => ?_)
              cases ex with
              | normal => exact ihb p' hp' hst'.2 j (by omega) e o hq
              | goto i =>
                obtain ⟨hi, _, s, m, hs, hm⟩ := jump i e o hq
                subst hi
                simp only [Ex.then, hfl]
                rw [hRr]
                exact ⟨m, s, rfl, hs, hm⟩
              | exit i => exact hq
              | ret => exact hq
          unfold splitL at hsp
          split at hsp
          · rename_i i
            split at hsp
            · rename_i hi
              injection hsp with hsp; injection hsp with h1 h2
              subst h1; subst h2
              cases j with
              | zero => simp [W] at hw
              | succ j =>
                simp only [W] at hw
                obtain ⟨_, hlen, s, m, hs, hm⟩ := jump _ _ _ hw
                refine A_seq (A_label ?_)
                refine A_settle0 (C := C) lb.L hlen ?_
                have := one m s hm
                rw [hs] at this
                refine this.mono fun ex e o hq => ?_
                cases ex with
                | goto i =>
                  show (match findLabel b i with
                    | some rest' => ∃ m', Rr m' rest' (settle C lb.L e o).1 (settle C lb.L e o).2
                    | none => k (.goto i) e o = some r)
                  cases hfi : findLabel b i with
                  | none => simp only [hfi] at hq; exact hq
                  | some rest' =>
                    simp only [hfi] at hq
                    obtain ⟨m', _, hm'⟩ := hq
                    exact ⟨m', hm'⟩
                | normal => exact hq
                | exit i => exact hq
                | ret => exact hq
            · simp only [Option.map_eq_some_iff] at hsp
              obtain ⟨p, hpp, he⟩ := hsp
              injection he with h1 h2
              exact gen p.1 (by rw [hpp, ← h2]) h1.symm
          · split at hsp
            · simp only [Option.map_eq_some_iff] at hsp
              obtain ⟨p, hpp, he⟩ := hsp
              injection he with h1 h2
              exact gen p.1 (by rw [hpp, ← h2]) h1.symm
            · cases hsp
        | _ => intro pre' hsp; simp [splitL] at hsp
      refine A_scope2 (C := C) lb.L Rr hLe (spine b pre hp hsb n (Nat.le_refl _) env objs h) ?_
      intro m d e o hR
      rw [hRr] at hR
      obtain ⟨s, rfl, hs, hit⟩ := hR
      have := one m s hit
      rw [hs] at this
      exact A_seq (A_skip this)
end

end Go.Vm
